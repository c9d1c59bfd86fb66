/- The law NamesBack holds for every text and every number: it returns true, and its arguments read as before. No condition. Part 33: Res3 Visib Path Rw6 Rw7 Fre1. -/
import Derived.Deep.CutBlock
import Derived.Test.YtoepemlnlpamlaaGreatBakk14
import Derived.Test.YtoepemlnlpamlaaGreatBakk16
import Derived.Test.YtoepemlnlpamlaaGreatBakk22
import Derived.Test.YtoepemlnlpamlaaGreatBakk23
import Derived.Test.YtoepemlnlpamlaaGreatBakk28
import Derived.Test.YtoepemlnlpamlaaGreatBakk32
set_option maxRecDepth 100000
set_option maxHeartbeats 4000000
namespace Go.Proofs.YtoepemlnlpamlaaGreat
open Go.RowKit
def Yd(t:aa)(w:World)(e:Ending)(w':World):Prop:=
 (iJ t=false/\e= .returned (.tuple #[.agg #[.slice none 0 0,.slice none 0 0],.slice none 0 0,.int .i64 1])/\Below w.heap.size w w') \/
 (iJ t=true/\∃E V A n c,e= .returned (.tuple #[.agg #[.slice V.dA (aR t).ds.length V.dc,.slice E.uA (aR t).uses.length E.uc],.slice A n c,.int .i64 0])/\w.heap.size<=E.base/\aS E (eP t) (aR t) V w'/\n=(aR t).aO.length/\aL w' w.heap.size 78 5 (.slice A n c) n ((aR t).aO.flatMap fun p=>bR p.2)/\Below w.heap.size w w')
theorem aS.farBlk{E:RC}{G:aW}{r:RS}{V:RV}{w w':World}{g:Nat}{t:TypeId}{cs:Array Value}(h:aS E G r V w)(hb:ai w g t cs)(h1:t≠75)(h2:t≠3)(h3:t≠49)(h4:t≠80)(hs:az (fun x=>x=g) w w'):aS E G r V w':=by
 have gQ:∀{K:Type} [DecidableEq K] {KK:om K}{q:Nat}{m:List (K×Value)},aZ KK w q m->aZ KK w' q m:=fun ha=>ha.since hs (fun h1=>ha.qP hb h1)
 have how:∀{e size v n xs},aL w E.base e size v n xs->t≠e->aL w' E.base e size v n xs:=fun ha hne=>ha.since hs (fun q hq h1=>ha.eu hb hne.symm (by rw[hq,h1]))
 refine⟨h.blk.since hs (fun e=>?_),gQ h.gl,gQ h.fl,gQ h.kn,gQ h.vi,eX.of_block h.bQ fun q cur hq _=>hs.block q (aaG.1 hq).1 fun e=>?_,how h.ds h3,how h.us h2,how h.ps h4,h.low,h.apart⟩
 ·have e1:w.heap[E.rp]? =some (Obj.cells _ _ (0,0)):=h.blk
  have e2:w.heap[g]? =some (Obj.cells _ _ (0,0)):=hb;rw[e,e2]at e1;simp only[aaI,Obj.cells.injEq]at e1;exact h1 e1.2.1
 ·have e2:w.heap[g]? =some (Obj.cells _ _ (0,0)):=hb
  rw[e,e2]at hq;simp only[aaI,Obj.cells.injEq]at hq;exact h2 hq.2.1
theorem news_dg(w:World)(g:Nat)(d:Dg)(h0:w.cell? ⟨g,0,none⟩=some (.int .i64 d.code))(h1:w.cell? ⟨g,1,none⟩=some (.int .i64 d.at_))(h2:w.cell? ⟨g,2,none⟩=some (.int .i64 d.end_))(h3:w.cell? ⟨g,3,none⟩=some (.string d.text))(h4:w.cell? ⟨g,4,none⟩=some (.slice none 0 0)):
 ∀j v,(bR d)[j]? =some v->w.cell? ((⟨g,0,none⟩:Addr).add j)=some v:=by
 intro j v hj
 match j,hj with
 | 0,hj=>cases hj;exact h0
 | 1,hj=>cases hj;simpa [Addr.add] using h1
 | 2,hj=>cases hj;simpa [Addr.add] using h2
 | 3,hj=>cases hj;simpa [Addr.add] using h3
 | 4,hj=>cases hj;simpa [Addr.add] using h4
 | j+5,hj=>simp[bR]at hj
theorem G8(t:aa)(A:Option Addr)(c:Nat)(w:World)(hN:ah t<=1000000)(hcap:t.kids.length<=c)(hk:aD w w.heap.size A 0 t.kids):
 Calls Tryz.prog 12 #[aX t A c] w (Yd t w):=by
 obtain⟨k0,x0,a0,z0,n0,-,-,-,-,-,mP⟩:=gM t A c;obtain⟨i0,hi0,hz0,hz1,hz2⟩:=info_parts F9;obtain⟨W1,hW1⟩:∃W1,(w.alloc (.cells #[.int .i64 k0,.string x0,.int .i64 a0,.int .i64 z0,.slice A n0 c] 24)).alloc (.cells #[.slice none 0 0,.slice none 0 0] 30)=W1:=⟨_,rfl⟩
 have hnb:ai W1 w.heap.size 24 #[.int .i64 k0,.string x0,.int .i64 a0,.int .i64 z0,.slice A n0 c]:=by rw[<- hW1];exact(ai.new w _ _).alloc _
 have hrb:ai W1 (w.heap.size+1) 30 #[.slice none 0 0,.slice none 0 0]:=by
  rw[<- hW1];have:=ai.new (w.alloc (.cells #[.int .i64 k0,.string x0,.int .i64 a0,.int .i64 z0,.slice A n0 c] 24)) 30 #[.slice none 0 0,.slice none 0 0];simpa using this
 have hb1:Below w.heap.size w W1:=by rw[<- hW1];exact(af w _).trans ((af _ _).mono (by simp))
 have hval:=Nr t A c W1 (by omega) (aD.mono hb1.size _ _ _ (aD.below hb1 (aaD _) _ _ _ hk));rw[mP]at hval⊢;obtain⟨vb,hvb⟩:∃q,iJ t=q:=⟨_,rfl⟩
 rw[hvb]at hval;have Mg:=kH hval;have yV:=kH hvb;have kU:=kH hnb;have dI:=kH hrb;have HB1:=kH hb1;have D9:=kH mP;have HCAP:=kH hcap;have HK:=kH hk;have m0:=hnb.cell 0;have m1:=hnb.cell 1;have m2:=hnb.cell 2;have m3:=hnb.cell 3;have m4:=hnb.cell 4;have lm:=hnb.lt;clear hval hvb hnb hrb hb1 mP hcap hk;go_enter Tryz.func12,Tryz.ntmps12
 go_wp2_with fail
 clear hW1 m0 m1 m2 m3 m4 lm;refine Mg.out.mono ?_;rintro e2 w2 ⟨rfl,hb2⟩;have HB2:Hid (Below w.heap.size w w2):=kH (HB1.out.trans (hb2.mono HB1.out.size));have vE:=kH (kU.out.below hb2 kU.out.lt);have Jq:=kH (dI.out.below hb2 dI.out.lt);clear hb2
 cases vb with
 | false=>
  have r0:=Jq.out.cell 0;have r1:=Jq.out.cell 1;have g0:=Jq.out.frozen 0;have g1:=Jq.out.frozen 1;have lr:=Jq.out.lt;go_wp2_with fail
  try simp only[Exit.inBlock,Exit.then]
  refine bodyPost_ret (v:=.tuple #[.agg #[.slice none 0 0,.slice none 0 0],.slice none 0 0,.int .i64 1]) (by simp[results,Tryz.results12,go_sem,r0,r1]) rfl ?_;exact .inl ⟨yV.out,rfl,(HB2.out.setCell (p:=⟨w.heap.size+1,0,none⟩) (by show w.heap.size<=w.heap.size+1;omega) _).setCell (p:=⟨w.heap.size+1,1,none⟩) (by show w.heap.size<=w.heap.size+1;omega) _⟩
 | true=>
  have hres:=Gp t A c w2 (Mt yV.out) hN HCAP.out (aD.mono HB2.out.size _ _ _ (aD.below HB2.out (aaD _) _ _ _ HK.out));rw[D9.out]at hres;have aM:=kH hres;have m0:=vE.out.cell 0;have m1:=vE.out.cell 1;have m2:=vE.out.cell 2;have m3:=vE.out.cell 3;have m4:=vE.out.cell 4;have lm:=vE.out.lt;clear hres;go_wp2_with fail
  clear m0 m1 m2 m3 m4 lm;refine aM.out.mono ?_;rintro e3 w3 ⟨E,V,rfl,DT,df,hb3⟩;have aan:=kH (Jq.out.below hb3 Jq.out.lt);have HB3:Hid (Below w.heap.size w w3):=kH (HB2.out.trans (hb3.mono HB2.out.size));have HEB:Hid (w.heap.size<=E.base/\w.heap.size+1<w3.heap.size):=kH ⟨by rw[DT];exact HB2.out.size,aan.out.lt⟩;obtain⟨R,hR⟩:∃R,aR t=R:=⟨_,rfl⟩
  rw[hR]at df;have HRR:=kH hR;obtain⟨np,vK⟩:∃q,R.aO.length=q:=⟨_,rfl⟩
  have hnpm:np<=1000000:=by
   rw[<- vK,<- hR];have h1:=(Cu (eP t) t false [] ⟨[],List.replicate (ah t) (-1),[],[],0,0⟩).aO;have h2:=LX (eP t) t false [] ⟨[],List.replicate (ah t) (-1),[],[],0,0⟩;show(aF (eP t) false t [] ⟨[],List.replicate (ah t) (-1),[],[],0,0⟩).1.aO.length<=_;generalize (aF (eP t) false t [] ⟨[],List.replicate (ah t) (-1),[],[],0,0⟩).1=Z at h1 h2⊢
   have h3:Z.aO.length+0<=0+Z.next:=h1;have h4:Z.next<=0+ah t:=h2;omega
  obtain⟨pA,hpA⟩:∃q,V.pA=q:=⟨_,rfl⟩
  have c6:w3.cell? ⟨E.rp,6,none⟩=some (.slice pA np V.pc):=by
   have:=df.blk.cell 6;rw[<- vK,<- hpA];exact this
  have qw:=df.blk.lt;have hrow:=df.ps.rowAt (cells:=iq) (l:=R.aO) rfl rfl (fun c _=>rfl) rfl;rw[hpA]at hrow;have Jp:=kH hrow;have HR3:=kH df;have tX:=kH vK;clear hR vK hpA hrow df hb3 DT aM;go_wp2_with fail
  clear c6;go_loopg [6,20] np (fun gk s6 s20 wr=> ∃(i:Nat) (Aw:Option Addr) (cw:Nat),s20= .int .i64 (i:Int)/\s6= .slice Aw i cw/\i+gk=np/\Hid (aL wr w3.heap.size 78 5 (.slice Aw i cw) i ((R.aO.take i).flatMap fun p=>bR p.2))/\Hid (Below w3.heap.size w3 wr))
  case atStart=>exact⟨0,none,0,rfl,rfl,by omega,kH (aL.nil _ _ _ _),kH (Below.refl _ _)⟩
  case round=>
   obtain⟨i,Aw,cw,rfl,rfl,hi,HO,HB⟩:=hrel;by_cases hlt:i<np
   ·have hlt':(i:Int)<(np:Int):=by omega
    have hw:IntKind.i64.wrap ((i:Int)+1)=(i:Int)+1:=IntWalk.i64_in _ (by omega);obtain⟨p,hp⟩:∃p,R.aO[i]? =some p:=⟨_,aaH (by rw[tX.out];exact hlt)⟩
    obtain⟨b,off,hA,hbl0,hcs⟩:=(Jp.out.later HB.out) i p hp;subst hA;have hbl:b<wr.heap.size:=hbl0;have HPI:Hid ((R.aO.take (i+1)).flatMap (fun p=>bR p.2)=(R.aO.take i).flatMap (fun p=>bR p.2)++bR p.2):=kH (by rw[xZ hp];simp);obtain⟨p1,p2,p3,p4,p5⟩:=p;have t0:wr.cell? ⟨b,off+i*6,none⟩=some (.int .i64 p1):=by simpa using hcs 0 _ rfl
    have t1:wr.cell? ⟨b,off+i*6+1,none⟩=some (.int .i64 p2):=by simpa using hcs 1 _ rfl
    have t2:wr.cell? ⟨b,off+i*6+2,none⟩=some (.int .i64 p3):=by simpa using hcs 2 _ rfl
    have t3:wr.cell? ⟨b,off+i*6+3,none⟩=some (.int .i64 p4):=by simpa using hcs 3 _ rfl
    have t4:wr.cell? ⟨b,off+i*6+4,none⟩=some (.string p5):=by simpa using hcs 4 _ rfl
    have t5:wr.cell? ⟨b,off+i*6+5,none⟩=some (.slice none 0 0):=by simpa using hcs 5 _ rfl
    clear hcs hp hbl0;go_wp2_with (at_builtin;go_must (refine dm _ rfl (.tmp 24) (.tmp 27) _ rfl w3.heap.size 78 i0 _ 5 64 Tryz.underlying31 hi0 hz0 hz1 hz2 rfl (.slice Aw i cw) i ((R.aO.take i).flatMap fun p=>bR p.2) rfl ((HO.out.alloc _).alloc _) ⟨wr.heap.size+1,0,none⟩ 1 1 (bR ⟨p2,p3,p4,p5⟩) rfl rfl (news_dg _ _ _ (by go_simp) (by go_simp) (by go_simp) (by go_simp) (by go_simp)) (by simp[bR,Value.oneCell']) (by simp only[maxLen];omega) (by omega) (by have:=HB.out.size;simp;omega) ?_);intro vn w6 hown hgrow hat;obtain⟨A6,c6,kP,-,-⟩:=hown.shape;subst kP;have HOWN:=kH hown;have nW:=kH hgrow;clear hown hgrow hat)
    have Ai:Hid (aL w6 w3.heap.size 78 5 (.slice A6 (i+1) c6) (i+1) ((R.aO.take (i+1)).flatMap fun p=>bR p.2)):=kH (by rw[HPI.out];exact HOWN.out);have yC:Hid (Below w3.heap.size w3 w6):=kH ((HB.out.trans (((Below.refl _ wr).alloc (aaD _) _ |>.alloc (by simp) _).mono HB.out.size)).trans (((az.refl (fun g=>w3.heap.size<=g) _).grown nW.out (fun g hg=>.inl (HO.out.lt g hg).1)).toBelow (by have:=HB.out.size;simp;omega) (fun g hg=>hg)));clear HOWN nW;go_roundg (gk - 1)
    case measure=>omega
    case rel=>exact⟨i+1,A6,c6,by simp,rfl,by omega,Ai,yC⟩
   ·have hin:i=np:=by omega
    subst hin;have hge:¬((i:Int)<(i:Int)):=by omega
    have hRr:=HR3.out.below HB.out;have Bw:=aan.out.below HB.out aan.out.lt;obtain⟨nd,hnd⟩:∃q,R.ds.length=q:=⟨_,rfl⟩
    obtain⟨nu,hnu⟩:∃q,R.uses.length=q:=⟨_,rfl⟩
    have c3:wr.cell? ⟨E.rp,3,none⟩=some (.slice V.dA nd V.dc):=by rw[<- hnd];exact hRr.blk.cell 3
    have c4:wr.cell? ⟨E.rp,4,none⟩=some (.slice E.uA nu E.uc):=by rw[<- hnu];exact hRr.blk.cell 4
    have lr:=hRr.blk.lt;have r0:=Bw.cell 0;have r1:=Bw.cell 1;have g0:=Bw.frozen 0;have g1:=Bw.frozen 1;have lb:=Bw.lt
    have hne:E.rp≠w.heap.size+1:=fun e=>by
     have h1:wr.heap[E.rp]? =some (Obj.cells _ _ (0,0)):=hRr.blk;have h2:wr.heap[w.heap.size+1]? =some (Obj.cells _ _ (0,0)):=Bw;rw[e,h2]at h1;simp at h1
    have hss:az (fun g=>g=w.heap.size+1) wr ((wr.drew.setCell ⟨w.heap.size+1,0,none⟩ (.slice V.dA nd V.dc)).setCell ⟨w.heap.size+1,1,none⟩ (.slice E.uA nu E.uc)):=
     az.setCell (S:=fun g=>g=w.heap.size+1) (az.setCell (S:=fun g=>g=w.heap.size+1) ((az.refl _ wr).drew) (p:=⟨w.heap.size+1,0,none⟩) (.inl rfl) _) (p:=⟨w.heap.size+1,1,none⟩) (.inl rfl) _
    have hRz:=hRr.farBlk Bw (by decide) (by decide) (by decide) (by decide) hss
    have hOz:aL ((wr.drew.setCell ⟨w.heap.size+1,0,none⟩ (.slice V.dA nd V.dc)).setCell ⟨w.heap.size+1,1,none⟩ (.slice E.uA nu E.uc)) w.heap.size 78 5 (.slice Aw i cw) i ((aR t).aO.flatMap fun p=>bR p.2):=by
     have:=(HO.out.mono HB3.out.size).since hss (fun q hq h1=>HO.out.eu Bw (by decide) (by rw[hq,h1]));rw[HRR.out];rw[List.take_of_length_le (by rw[tX.out];exact aaD _)]at this;exact this
    have hBz:Below w.heap.size w ((wr.drew.setCell ⟨w.heap.size+1,0,none⟩ (.slice V.dA nd V.dc)).setCell ⟨w.heap.size+1,1,none⟩ (.slice E.uA nu E.uc)):=
     ((((HB3.out.trans (HB.out.mono HB3.out.size))).drew).setCell (p:=⟨w.heap.size+1,0,none⟩) (by show w.heap.size<=w.heap.size+1;omega) _).setCell (p:=⟨w.heap.size+1,1,none⟩) (by show w.heap.size<=w.heap.size+1;omega) _
    have hbz:=(Bw.drew.fU 0 (.slice V.dA nd V.dc)).fU 1 (.slice E.uA nu E.uc);have NF:Hid (ai ((wr.drew.setCell ⟨w.heap.size+1,0,none⟩ (.slice V.dA nd V.dc)).setCell ⟨w.heap.size+1,1,none⟩ (.slice E.uA nu E.uc)) (w.heap.size+1) 30 #[.slice V.dA nd V.dc,.slice E.uA nu E.uc]):=kH (by simpa using hbz)
    have aV:Hid (Yd t w (.returned (.tuple #[.agg #[.slice V.dA nd V.dc,.slice E.uA nu E.uc],.slice Aw i cw,.int .i64 0])) ((wr.drew.setCell ⟨w.heap.size+1,0,none⟩ (.slice V.dA nd V.dc)).setCell ⟨w.heap.size+1,1,none⟩ (.slice E.uA nu E.uc))):=kH (by
     refine .inr ⟨yV.out,E,V,Aw,i,cw,by rw[HRR.out,hnd,hnu],HEB.out.1,by rw[HRR.out];exact hRz,by rw[HRR.out,tX.out],hOz,hBz⟩)
    clear hRz hOz hBz hbz hss hnd hnu hRr Bw;go_wp2_with fail
    refine fT (fun w'=>w'.cell? ⟨E.rp,3,none⟩=some (.slice V.dA nd V.dc)/\w'.cell? ⟨E.rp,4,none⟩=some (.slice E.uA nu E.uc)) [] [true,true,true,true,true,true,true,true,true,true,false,false,false] (by kernel_rfl) (by kernel_rfl) rfl (by kernel_rfl) ?_;have hS0:wr.drew.cell? ⟨E.rp,3,none⟩=some (.slice V.dA nd V.dc)/\wr.drew.cell? ⟨E.rp,4,none⟩=some (.slice E.uA nu E.uc):=⟨c3,c4⟩
    iterate 10(refine jI rfl hS0 (by intro w' hSw;obtain⟨hs1,hs2⟩:=hSw;go_simp;rfl) ?_;simp only[Act.put,sA,sZ,sC])
    refine kG (w':=(wr.drew.setCell ⟨w.heap.size+1,0,none⟩ (.slice V.dA nd V.dc)).setCell ⟨w.heap.size+1,1,none⟩ (.slice E.uA nu E.uc)) rfl (by go_simp) (fun _=>⟨by go_simp,by go_simp⟩) ?_;simp only[Act.put];iterate 2(refine kD (w':=(wr.drew.setCell ⟨w.heap.size+1,0,none⟩ (.slice V.dA nd V.dc)).setCell ⟨w.heap.size+1,1,none⟩ (.slice E.uA nu E.uc)) rfl (by go_simp;rfl) (fun _=>⟨by go_simp,by go_simp⟩) ?_;simp only[Act.put,sA,sZ,sC])
    refine ll ?_;clear hS0 r0 r1 g0 g1 c3 c4;generalize (wr.drew.setCell ⟨w.heap.size+1,0,none⟩ (.slice V.dA nd V.dc)).setCell ⟨w.heap.size+1,1,none⟩ (.slice E.uA nu E.uc)=WZ at aV NF⊢
    have r0:=NF.out.cell 0;have r1:=NF.out.cell 1;go_wp2_with fail
    try simp only[Exit.inBlock,Exit.then]
    refine bodyPost_ret (v:=.tuple #[.agg #[.slice V.dA nd V.dc,.slice E.uA nu E.uc],.slice Aw i cw,.int .i64 0]) (by simp[results,Tryz.results12,go_sem,r0,r1]) rfl ?_;exact aV.out
theorem U1{K:Type}[DecidableEq K](x:K×Value)(m:List (K×Value))(k:K):ng (x::m) k=if k=x.1 then some x.2 else ng m k:=by
 unfold ng;rw[l5];by_cases h:k=x.1
 ·rw[if_pos h,if_pos h];rfl
 ·rw[if_neg h,if_neg h]
  have:=CJ k m 1 0;rw[Nat.add_zero]at this;rw[this];cases l5 k m 0<;>rfl
theorem eX.look{w:World}{base:Nat}{ub:Option Nat}(k:Int):∀{l:List (Int×List Int)}{vals:List (Int×Value)},eX w base ub l vals ->
 ∃v,(ng vals k).getD (.slice none 0 0)=v/\aL w base 3 1 v ((bJ l k).getD []).length (iE ((bJ l k).getD []))
 | [],vals,h=>by
  have:vals=[]:=h;subst this;exact⟨_,rfl,aL.nil _ _ _ _⟩
 | x::l,vals,⟨v,vs,h1,h2,h3,h4⟩=>by
  subst h1;rw[U1,bJ];by_cases hk:k=x.1
  ·rw[if_pos hk,if_pos hk]
   exact⟨v,rfl,h2⟩
  ·rw[if_neg hk,if_neg hk]
   exact eX.look k h4
theorem Wi(w:World):(zeroValue 28).run Tryz.prog w= .ok (.slice none 0 0) w:=by go_simp
def qF(t:aa)(k:Int):List Int:=if iJ t then(bJ (aR t).bQ k).getD [] else []
theorem Sa(t:aa)(A:Option Addr)(c:Nat)(num:Int)(w:World)(hN:ah t<=1000000)(hcap:t.kids.length<=c)(hk:aD w w.heap.size A 0 t.kids):
 Calls Tryz.prog 17 #[aX t A c,.int .i64 num] w fun e w'=> ∃v,e= .returned v/\aL w' w.heap.size 3 1 v (qF t num).length (iE (qF t num))/\Below w.heap.size w w':=by
 obtain⟨k0,x0,a0,z0,n0,-,-,-,-,-,mP⟩:=gM t A c;obtain⟨W1,hW1⟩:∃W1,w.alloc (.cells #[.int .i64 k0,.string x0,.int .i64 a0,.int .i64 z0,.slice A n0 c] 24)=W1:=⟨_,rfl⟩
 have hnb:ai W1 w.heap.size 24 #[.int .i64 k0,.string x0,.int .i64 a0,.int .i64 z0,.slice A n0 c]:=by rw[<- hW1];exact ai.new w _ _
 have hb1:Below w.heap.size w W1:=by rw[<- hW1];exact af w _
 have hval:=Nr t A c W1 (by omega) (aD.mono hb1.size _ _ _ (aD.below hb1 (aaD _) _ _ _ hk));rw[mP]at hval⊢;obtain⟨vb,hvb⟩:∃q,iJ t=q:=⟨_,rfl⟩
 obtain⟨Z,hZ⟩:∃Z,qF t num=Z:=⟨_,rfl⟩
 rw[hZ];unfold qF at hZ;rw[hvb]at hval hZ;have Mg:=kH hval;have HZ:=kH hZ;have yV:=kH hvb;have kU:=kH hnb;have HB1:=kH hb1;have D9:=kH mP;have HCAP:=kH hcap;have HK:=kH hk;have m0:=hnb.cell 0;have m1:=hnb.cell 1;have m2:=hnb.cell 2;have m3:=hnb.cell 3;have m4:=hnb.cell 4;have lm:=hnb.lt;clear hval hvb hnb hb1 mP hcap hk hZ;go_enter Tryz.func17,Tryz.ntmps17
 go_wp2_with fail
 clear hW1 m0 m1 m2 m3 m4 lm;refine Mg.out.mono ?_;rintro e2 w2 ⟨rfl,hb2⟩;have HB2:Hid (Below w.heap.size w w2):=kH (HB1.out.trans (hb2.mono HB1.out.size));have vE:=kH (kU.out.below hb2 kU.out.lt);clear hb2
 cases vb with
 | false=>
  have hz:Z=[]:=by rw[<- HZ.out];rfl
  subst hz;go_wp2_with fail
  go_ret
  exact⟨_,rfl,aL.nil _ _ _ _,HB2.out⟩
 | true=>
  have hres:=Gp t A c w2 (Mt yV.out) hN HCAP.out (aD.mono HB2.out.size _ _ _ (aD.below HB2.out (aaD _) _ _ _ HK.out));rw[D9.out]at hres;have aM:=kH hres;have m0:=vE.out.cell 0;have m1:=vE.out.cell 1;have m2:=vE.out.cell 2;have m3:=vE.out.cell 3;have m4:=vE.out.cell 4;have lm:=vE.out.lt;clear hres;go_wp2_with fail
  clear m0 m1 m2 m3 m4 lm;refine aM.out.mono ?_;rintro e3 w3 ⟨E,V,rfl,DT,df,hb3⟩;have hlk:=uU (P:=Tryz.prog) (KK:=kF) (t:=72) (kt:=3) (et:=28) Tryz.underlying72 Tryz.underlying3 Wi df.vi num;obtain⟨v,hv,ho⟩:=eX.look num df.bQ;rw[hv]at hlk;change (Instr.lookup 72 (.map (some E.vi)) (.int .i64 num) false).run Tryz.prog w3=_ at hlk;have hz:(bJ (aR t).bQ num).getD []=Z:=by rw[<- HZ.out];rfl
  rw[hz]at ho;have c5:w3.cell? ⟨E.rp,5,none⟩=some (.map (some E.vi)):=df.blk.cell 5;have lr:=df.blk.lt;have HO:Hid (aL w3 w.heap.size 3 1 v Z.length (iE Z)):=kH (ho.mono (by rw[DT];exact HB2.out.size));have HB3:Hid (Below w.heap.size w w3):=kH (HB2.out.trans (hb3.mono HB2.out.size));clear DT df hb3 hv ho hz aM;go_wp2_with fail
  go_ret
  exact⟨v,rfl,HO.out,HB3.out⟩
theorem ai.BZ{w:World}{g:Nat}{t:TypeId}{a0 b0 c0 d0 e0:Value}(h:ai w g t #[a0,b0,c0,d0,e0])(a b c d e:Value):ai (bZ w g a b c d e) g t #[a,b,c,d,e]:=by
 have:=((((h.fU 0 a).fU 1 b).fU 2 c).fU 3 d).fU 4 e;unfold bZ;simpa using this
theorem qj{w:World}{g:Nat}{a b c d e:Value}:az (fun x=>x=g) w (bZ w g a b c d e):=by
 unfold bZ;exact(((((az.refl (fun x=>x=g) w).setCell (.inl rfl) _).setCell (.inl rfl) _).setCell (.inl rfl) _).setCell (.inl rfl) _).setCell (.inl rfl) _
theorem gB.nth{w:World}{B:Nat}:∀{ts:List aa}{vs:List (List Value)},gB w B ts vs->∀(i:Nat) (t:aa),ts[i]? =some t->∃v,vs[i]? =some v/\lQ w B t v
 | [],_,_,i,t,h=>by simp at h
 | t::ts,_,h,0,u,hu=>by
  obtain⟨v,vs,rfl,h3,h4⟩:=h;simp at hu;subst hu;exact⟨v,rfl,h3⟩
 | t::ts,_,h,i+1,u,hu=>by
  obtain⟨v,vs,rfl,h3,h4⟩:=h;obtain⟨v2,h5,h6⟩:=gB.nth h4 i u (by simpa using hu);exact⟨v2,by simpa using h5,h6⟩
theorem YF{P:Program}{ops:Array Oper}{Q:Exit->Act->World->Prop}{S:World->Prop}{ex:List Nat}{k:Nat}{ss:List Bool}{o:Oper}{rest:List Oper}{a:Act}{w w':World}{v:Value}(hg:Region.wanted o (yielded ops a.tmps)=true)
 (hr:(execOp a.eval o).run P w= .ok (.value v) w') (hS:ex.contains k=false->S w') (h:sM P ops Q S ex (k+1) ss rest (a.put o.dst v) w'):sM P ops Q S ex k (false::ss) (o::rest) a w:=
 N8 hg (by unfold Oper.wp;rw[hr];exact⟨hS,h⟩)
theorem Wm{P:Program}{ops:Array Oper}{Q:Exit->Act->World->Prop}{S:World->Prop}{ex:List Nat}{k:Nat}{ss:List Bool}{o:Oper}{rest:List Oper}{a:Act}{w w':World}(hg:Region.wanted o (yielded ops a.tmps)=true)
 (hr:(execOp a.eval o).run P w= .ok .skip w') (hS:ex.contains k=false->S w') (h:sM P ops Q S ex (k+1) ss rest (a.put o.dst undef) w'):sM P ops Q S ex k (false::ss) (o::rest) a w:=
 N8 hg (by unfold Oper.wp;rw[hr];exact⟨hS,h⟩)
def FX(base ob:Nat)(M:Nat->Prop)(w w':World):Prop:=az (fun g=>(g=ob\/(base<=g/\∃cs fr,w.heap[g]? =some (.cells cs 9 fr)))\/M g) w w'
section
variable {base ob:Nat}{M M':Nat->Prop}{w w1 w':World}
theorem FX.refl(base ob:Nat)(M:Nat->Prop)(w:World):FX base ob M w w:=az.refl _ _
theorem FX.trans(h:FX base ob M w w1)(k:FX base ob M' w1 w')(hM:∀g,M' g->M g\/w.heap.size<=g):FX base ob M w w':=by
 refine⟨k.os.trans h.os,k.tape.trans h.tape,k.output.trans h.output,aaE h.size k.size,fun g hg hn=>?_⟩;have h1:=h.block g hg hn
 have h2:=k.block g (Nat.lt_of_lt_of_le hg h.size) (fun h3=>hn (by
  rcases h3 with(h3| ⟨h4,cs,fr,h5⟩)|h3
  ·exact .inl (.inl h3)
  ·exact .inl (.inr ⟨h4,cs,fr,by rw[<- h1];exact h5⟩)
  ·rcases hM g h3 with h6|h6
   ·exact .inr h6
   ·omega))
 rw[h2,h1]
theorem FX.of_below(hb:Below w.heap.size w w'):FX base ob M w w':=(az.refl _ _).below hb
theorem FX.nY(h:az M w w'):FX base ob M w w':=az.mono h fun _ h1=>.inr h1
theorem FX.low(h:FX base ob M w w'){B:Nat}(hB:B<=w.heap.size)(h1:B<=ob)(h2:B<=base)(hM:∀g,M g->B<=g):Below B w w':=az.toBelow h hB fun g hg=>by
 rcases hg with(hg|hg)|hg
 ·omega
 ·exact aaE h2 hg.1
 ·exact hM g hg
theorem FX.blk(h:FX base ob M w w'){g:Nat}{t:TypeId}{cs:Array Value}(hb:ai w g t cs)(ht:t≠9)(ho:g≠ob)(hM:¬M g):ai w' g t cs:=by
 refine ai.since hb h fun h1=>?_
 rcases h1 with(h1| ⟨-,cs',fr,h1⟩)|h1
 ·exact ho h1
 ·have e2:w.heap[g]? =some (Obj.cells _ _ (0,0)):=hb
  rw[e2]at h1;simp only[aaI,Obj.cells.injEq]at h1;exact ht h1.2.1
 ·exact hM h1
theorem FX.QU(h:FX base ob M w w'){K:Type}[DecidableEq K]{KK:om K}{r:Nat}{m:List (K×Value)}(ha:aZ KK w r m){t:TypeId}{cs:Array Value}(GU:ai w ob t cs)(hM:¬M r):aZ KK w' r m:=by
 refine ha.since h fun h1=>?_
 rcases h1 with(h1| ⟨-,cs',fr,h1⟩)|h1
 ·exact ha.qP GU h1
 ·obtain⟨es,ck,ho⟩:=ha.isMap
  rw[ho]at h1;cases h1
 ·exact hM h1
theorem ai.ne_of{g g':Nat}{t t':TypeId}{cs cs':Array Value}(h:ai w g t cs)(h':ai w g' t' cs')(ht:t≠t'):g≠g':=fun e=>by
 have e1:w.heap[g]? =some (Obj.cells _ _ (0,0)):=h;have e2:w.heap[g']? =some (Obj.cells _ _ (0,0)):=h';rw[e,e2]at e1;simp only[aaI,Obj.cells.injEq]at e1;exact ht e1.2.1.symm
theorem FX.sc(h:FX base ob M w w'){cs:Array Value}(GU:ai w ob 41 cs)(hMb:∀g t cs,ai w g t cs->¬M g):∀{s:aK}{p:Option Addr}{ms:List Nat},bK w base p s ms->(∀m∈ms,¬M m)->bK w' base p s ms
 | [],_,_,hs,_=>hs
 | _::_,_,_,⟨b,m,p',ms',h1,h2,h3,h4,h5,h6,h7⟩,hms=>by
  subst h2;exact⟨b,m,p',ms',h1,rfl,h3,h4,h.blk h5 (by decide) (h5.ne_of GU (by decide)) (hMb _ _ _ h5),h.QU h6 GU (hms m (by simp)),FX.sc h GU hMb h7 fun x hx=>hms x (by simp[hx])⟩
end
theorem WA:(Tryz.prog.info? 9).map (fun i=>(i.zero,i.size,i.bytes))=some (some (.string ⟨#[]⟩),1,16):=by kernel_rfl
def nU(base ob:Nat)(out:List ByteArray)(w:World):Prop:=∃A n c,ai w ob 41 #[.slice A n c]/\aL w base 9 1 (.slice A n c) n (out.flatMap eZ)
theorem nU.below{base ob:Nat}{out:List ByteArray}{w w':World}(h:nU base ob out w)(hb:Below w.heap.size w w'):nU base ob out w':=by
 obtain⟨A,n,c,h1,h2⟩:=h;exact⟨A,n,c,h1.below hb h1.lt,h2.below hb fun g hg=>(h2.lt g hg).2⟩
def Jh(s:aK)(x:ByteArray)(out:List ByteArray):List ByteArray:=if (bV s x).isSome || nE out x then out else out++[x]
theorem Ow(l:List ByteArray):(l.flatMap eZ).length=l.length:=by
 induction l with
 | nil=>rfl
 | cons a l ih=>rw[List.flatMap_cons,aaO,ih,aaQ];simp[eZ];omega
theorem add_any(base ob:Nat)(out:List ByteArray)(s:aK)(p:Option Addr)(ms:List Nat)(x:ByteArray)(w:World)(hs:bK w base p s ms)(ho:nU base ob out w)(hb:base<=w.heap.size)(hm:out.length<=1000000):
 Calls Tryz.prog 44 #[.string x,.pointer p,.pointer (some ⟨ob,0,none⟩)] w fun e w'=>e= .returned (.tuple #[])/\nU base ob (Jh s x out) w'/\FX base ob (fun _=>False) w w':=by
 obtain⟨i0,hi0,hz0,hz1,hz2⟩:=info_parts WA;have hf:=Jc base x w s p ms hs;obtain⟨A,n,c,hblk,hown⟩:=ho;have hn:n=out.length:=by have:=hown.1;rw[Ow]at this;omega
 unfold Jh;generalize bV s x=fo at hf⊢
 obtain⟨hb0,hhb⟩:∃q,nE out x=q:=⟨_,rfl⟩
 rw[hhb];have hcon:=DX A n c out x w (hown.rowAt (cells:=eZ) (l:=out) rfl rfl (fun _ _=>rfl) hn.symm) hn.symm (by omega);rw[hhb]at hcon;have c0:=hblk.cell 0;have f0:=hblk.frozen 0;have lo:=hblk.lt;have HF:=kH hf;have HC:=kH hcon;have HB:=kH hblk;have HO:=kH hown;have HN:=kH hn;clear hf hcon hblk hown hhb hs hn
 cases fo with
 | some y=>
  simp only[Option.isSome_some,Bool.true_or,if_true]at HF⊢;go_enter Tryz.func44,Tryz.ntmps44
  go_wp2_with fail
  refine HF.out.mono ?_;rintro e w2 ⟨rfl,hw2⟩;obtain rfl:w=w2:=hw2.symm;go_wp2_with fail
  go_end0
  exact⟨rfl,⟨A,n,c,HB.out,HO.out⟩,FX.refl _ _ _ _⟩
 | none=>
  simp only[Option.isSome_none,Bool.false_or]at HF⊢
  cases hb0 with
  | true=>
   simp only[if_true];go_enter Tryz.func44,Tryz.ntmps44
   go_wp2_with fail
   refine HF.out.mono ?_;rintro e w2 ⟨rfl,hw2⟩;obtain rfl:w=w2:=hw2.symm;go_wp2_with fail
   refine HC.out.mono ?_;rintro e w2 ⟨rfl,hw2⟩;subst hw2;go_wp2_with fail
   go_end0
   exact⟨rfl,⟨A,n,c,HB.out,HO.out⟩,FX.refl _ _ _ _⟩
  | false=>
   simp only[Bool.false_eq_true,if_false];have hnm:n<=1000000:=by have:=HN.out;omega
   go_enter Tryz.func44,Tryz.ntmps44
   go_wp2_with fail
   refine HF.out.mono ?_;rintro e w2 ⟨rfl,hw2⟩;obtain rfl:w=w2:=hw2.symm;go_wp2_with fail
   refine HC.out.mono ?_;rintro e w2 ⟨rfl,hw2⟩;subst hw2;go_wp2_with (at_builtin;go_must (refine dm _ rfl (.tmp 21) (.tmp 23) _ rfl base 9 i0 _ 1 16 Tryz.underlying41 hi0 hz0 hz1 hz2 rfl (.slice A n c) n (out.flatMap eZ) rfl (HO.out.alloc _) ⟨_,0,none⟩ 1 1 [.string x] rfl rfl (CQ _ _ _ (by go_simp)) (by simp[Value.oneCell']) (by simp only[maxLen];omega) (by omega) (by simp;omega) ?_);intro vn w6 hown hgrow hat;obtain⟨A6,c6,kP,-,-⟩:=hown.shape;subst kP;have HOWN:=kH hown;have nW:=kH hgrow;have yQ:=ai.grown (ai.alloc HB.out _) hgrow (fun e1=>HO.out.eu HB.out (by decide) e1.symm);have q4:=yQ.cell 0;have q5:=yQ.frozen 0;have q6:=yQ.lt;have p8:=kH yQ;clear hown hgrow hat yQ)
   go_end0
   refine⟨rfl,⟨A6,n+1,c6,?_,?_⟩,?_⟩
   ·have:=p8.out.fU 0 (.slice A6 (n+1) c6)
    simpa using this
   ·have h1:=HOWN.out.setCell (p:=⟨ob,0,none⟩) (HOWN.out.eu p8.out (by decide)) (.slice A6 (n+1) c6)
    rw[List.flatMap_append];exact h1
   ·have h0:=HO.out
    refine az.setCell (S:=fun g=>(g=ob\/(base<=g/\∃cs fr,w.heap[g]? =some (.cells cs 9 fr)))\/False) ((az.alloc (az.refl _ w) _).grown nW.out (fun g hg=>.inl (.inl (.inr ?_)))) (p:=⟨ob,0,none⟩) (.inl (.inl (.inl rfl))) _;obtain⟨cur,hc⟩:=h0.obj g hg;exact⟨(h0.lt g hg).1,cur,(0,0),hc⟩
end Go.Proofs.YtoepemlnlpamlaaGreat
