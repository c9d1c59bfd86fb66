/- The law NamesResolves holds where what it reads is of bulk at most 1048576: it returns true, and its argument reads as before. Part 32: Res3 Visib Path Get RwW. -/
import Derived.Test.YtoepemlnlpamlaaGreatReso13
import Derived.Test.YtoepemlnlpamlaaGreatReso15
import Derived.Test.YtoepemlnlpamlaaGreatReso21
import Derived.Test.YtoepemlnlpamlaaGreatReso23
import Derived.Test.YtoepemlnlpamlaaGreatReso31
set_option maxRecDepth 100000
set_option maxHeartbeats 4000000
namespace Go.Proofs.YtoepemlnlpamlaaGreat
open Go.RowKit
def RZ(t:ae)(w:World)(e:Ending)(w':World):Prop:=
 (iJ t=false/\e= .returned (.tuple #[.agg #[.slice none 0 0,.slice none 0 0],.slice none 0 0,.int .i64 1])/\Below w.heap.size w w') \/
 (iJ t=true/\∃E V A n c,e= .returned (.tuple #[.agg #[.slice V.dA (bS t).ds.length V.dc,.slice E.uA (bS t).uses.length E.uc],.slice A n c,.int .i64 0])/\w.heap.size<=E.base/\aV E (dG t) (bS t) V w'/\n=(bS t).aW.length/\aL w' w.heap.size 78 5 (.slice A n c) n ((bS t).aW.flatMap fun p=>bC p.2)/\Below w.heap.size w w')
theorem aV.farBlk{E:RC}{G:bf}{r:RS}{V:RV}{w w':World}{g:Nat}{t:TypeId}{cs:Array Value}(h:aV E G r V w)(hb:ai w g t cs)(h1:t≠75)(h2:t≠3)(h3:t≠49)(h4:t≠80)(hs:aF (fun x=>x=g) w w'):aV E G r V w':=by
 have ik:∀{K:Type} [DecidableEq K] {KK:oD K}{q:Nat}{m:List (K×Value)},aY KK w q m->aY KK w' q m:=fun ha=>ha.since hs (fun h1=>ha.qZ hb h1)
 have how:∀{e size v n xs},aL w E.base e size v n xs->t≠e->aL w' E.base e size v n xs:=fun ha hne=>ha.since hs (fun q hq h1=>ha.bZ hb hne.symm (by rw[hq,h1]))
 refine⟨h.blk.since hs (fun e=>?_),ik h.gl,ik h.fl,ik h.kn,ik h.vi,fB.of_block h.aS fun q cur hq _=>hs.block q (abH.1 hq).1 fun e=>?_,how h.ds h3,how h.us h2,how h.ps h4,h.low,h.apart⟩
 ·have e1:w.heap[E.rp]? =some (Obj.cells _ _ (0,0)):=h.blk
  have e2:w.heap[g]? =some (Obj.cells _ _ (0,0)):=hb;rw[e,e2]at e1;simp only[abJ,Obj.cells.injEq]at e1;exact h1 e1.2.1
 ·have e2:w.heap[g]? =some (Obj.cells _ _ (0,0)):=hb
  rw[e,e2]at hq;simp only[abJ,Obj.cells.injEq]at hq;exact h2 hq.2.1
theorem news_dg(w:World)(g:Nat)(d:Dg)(h0:w.cell? ⟨g,0,none⟩=some (.int .i64 d.code))(h1:w.cell? ⟨g,1,none⟩=some (.int .i64 d.at_))(h2:w.cell? ⟨g,2,none⟩=some (.int .i64 d.end_))(h3:w.cell? ⟨g,3,none⟩=some (.string d.text))(h4:w.cell? ⟨g,4,none⟩=some (.slice none 0 0)):
 ∀j v,(bC d)[j]? =some v->w.cell? ((⟨g,0,none⟩:Addr).add j)=some v:=by
 intro j v hj
 match j,hj with
 | 0,hj=>cases hj;exact h0
 | 1,hj=>cases hj;simpa [Addr.add] using h1
 | 2,hj=>cases hj;simpa [Addr.add] using h2
 | 3,hj=>cases hj;simpa [Addr.add] using h3
 | 4,hj=>cases hj;simpa [Addr.add] using h4
 | j+5,hj=>simp[bC]at hj
theorem IP(t:ae)(A:Option Addr)(c:Nat)(w:World)(hN:au t<=1000000)(hcap:t.kids.length<=c)(hk:aK w w.heap.size A 0 t.kids):
 Calls Tryz.prog 12 #[bD t A c] w (RZ t w):=by
 obtain⟨k0,x0,a0,z0,n0,-,-,-,-,-,kX⟩:=fq t A c;obtain⟨i0,hi0,hz0,hz1,hz2⟩:=info_parts Dj;obtain⟨W1,hW1⟩:∃W1,(w.alloc (.cells #[.int .i64 k0,.string x0,.int .i64 a0,.int .i64 z0,.slice A n0 c] 24)).alloc (.cells #[.slice none 0 0,.slice none 0 0] 30)=W1:=⟨_,rfl⟩
 have hnb:ai W1 w.heap.size 24 #[.int .i64 k0,.string x0,.int .i64 a0,.int .i64 z0,.slice A n0 c]:=by rw[<- hW1];exact(ai.new w _ _).alloc _
 have hrb:ai W1 (w.heap.size+1) 30 #[.slice none 0 0,.slice none 0 0]:=by
  rw[<- hW1];have:=ai.new (w.alloc (.cells #[.int .i64 k0,.string x0,.int .i64 a0,.int .i64 z0,.slice A n0 c] 24)) 30 #[.slice none 0 0,.slice none 0 0];simpa using this
 have hb1:Below w.heap.size w W1:=by rw[<- hW1];exact(ag w _).trans ((ag _ _).mono (by simp))
 have hval:=Ot t A c W1 (by omega) (aK.mono hb1.size _ _ _ (aK.below hb1 (abE _) _ _ _ hk));rw[kX]at hval⊢;obtain⟨vb,hvb⟩:∃q,iJ t=q:=⟨_,rfl⟩
 rw[hvb]at hval;have Gq:=kH hval;have vW:=kH hvb;have lD:=kH hnb;have dH:=kH hrb;have HB1:=kH hb1;have BV:=kH kX;have HCAP:=kH hcap;have HK:=kH hk;have m0:=hnb.cell 0;have m1:=hnb.cell 1;have m2:=hnb.cell 2;have m3:=hnb.cell 3;have m4:=hnb.cell 4;have lm:=hnb.lt;clear hval hvb hnb hrb hb1 kX hcap hk;go_enter Tryz.func12,Tryz.ntmps12
 go_wp2_with fail
 clear hW1 m0 m1 m2 m3 m4 lm;refine Gq.out.mono ?_;rintro e2 w2 ⟨rfl,hb2⟩;have HB2:Hid (Below w.heap.size w w2):=kH (HB1.out.trans (hb2.mono HB1.out.size));have qj:=kH (lD.out.below hb2 lD.out.lt);have vN:=kH (dH.out.below hb2 dH.out.lt);clear hb2
 cases vb with
 | false=>
  have r0:=vN.out.cell 0;have r1:=vN.out.cell 1;have g0:=vN.out.frozen 0;have g1:=vN.out.frozen 1;have lr:=vN.out.lt;go_wp2_with fail
  try simp only[Exit.inBlock,Exit.then]
  refine bodyPost_ret (v:=.tuple #[.agg #[.slice none 0 0,.slice none 0 0],.slice none 0 0,.int .i64 1]) (by simp[results,Tryz.results12,go_sem,r0,r1]) rfl ?_;exact .inl ⟨vW.out,rfl,(HB2.out.setCell (p:=⟨w.heap.size+1,0,none⟩) (by show w.heap.size<=w.heap.size+1;omega) _).setCell (p:=⟨w.heap.size+1,1,none⟩) (by show w.heap.size<=w.heap.size+1;omega) _⟩
 | true=>
  have hres:=Hu t A c w2 (Nl vW.out) hN HCAP.out (aK.mono HB2.out.size _ _ _ (aK.below HB2.out (abE _) _ _ _ HK.out));rw[BV.out]at hres;have aM:=kH hres;have m0:=qj.out.cell 0;have m1:=qj.out.cell 1;have m2:=qj.out.cell 2;have m3:=qj.out.cell 3;have m4:=qj.out.cell 4;have lm:=qj.out.lt;clear hres;go_wp2_with fail
  clear m0 m1 m2 m3 m4 lm;refine aM.out.mono ?_;rintro e3 w3 ⟨E,V,rfl,BO,bT,hb3⟩;have abq:=kH (vN.out.below hb3 vN.out.lt);have HB3:Hid (Below w.heap.size w w3):=kH (HB2.out.trans (hb3.mono HB2.out.size));have HEB:Hid (w.heap.size<=E.base/\w.heap.size+1<w3.heap.size):=kH ⟨by rw[BO];exact HB2.out.size,abq.out.lt⟩;obtain⟨R,hR⟩:∃R,bS t=R:=⟨_,rfl⟩
  rw[hR]at bT;have HRR:=kH hR;obtain⟨np,qM⟩:∃q,R.aW.length=q:=⟨_,rfl⟩
  have hnpm:np<=1000000:=by
   rw[<- qM,<- hR];have h1:=(zA (dG t) t false [] ⟨[],List.replicate (au t) (-1),[],[],0,0⟩).aW;have h2:=GY (dG t) t false [] ⟨[],List.replicate (au t) (-1),[],[],0,0⟩;show(aJ (dG t) false t [] ⟨[],List.replicate (au t) (-1),[],[],0,0⟩).1.aW.length<=_;generalize (aJ (dG t) false t [] ⟨[],List.replicate (au t) (-1),[],[],0,0⟩).1=Z at h1 h2⊢
   have h3:Z.aW.length+0<=0+Z.next:=h1;have h4:Z.next<=0+au t:=h2;omega
  obtain⟨pA,hpA⟩:∃q,V.pA=q:=⟨_,rfl⟩
  have c6:w3.cell? ⟨E.rp,6,none⟩=some (.slice pA np V.pc):=by
   have:=bT.blk.cell 6;rw[<- qM,<- hpA];exact this
  have qy:=bT.blk.lt;have hrow:=bT.ps.rowAt (cells:=iI) (l:=R.aW) rfl rfl (fun c _=>rfl) rfl;rw[hpA]at hrow;have Kk:=kH hrow;have HR3:=kH bT;have mG:=kH qM;clear hR qM hpA hrow bT hb3 BO aM;go_wp2_with fail
  clear c6;go_loopg [6,20] np (fun gk s6 s20 wr=> ∃(i:Nat) (Aw:Option Addr) (cw:Nat),s20= .int .i64 (i:Int)/\s6= .slice Aw i cw/\i+gk=np/\Hid (aL wr w3.heap.size 78 5 (.slice Aw i cw) i ((R.aW.take i).flatMap fun p=>bC p.2))/\Hid (Below w3.heap.size w3 wr))
  case atStart=>exact⟨0,none,0,rfl,rfl,by omega,kH (aL.nil _ _ _ _),kH (Below.refl _ _)⟩
  case round=>
   obtain⟨i,Aw,cw,rfl,rfl,hi,HO,HB⟩:=hrel;by_cases hlt:i<np
   ·have hlt':(i:Int)<(np:Int):=by omega
    have hw:IntKind.i64.wrap ((i:Int)+1)=(i:Int)+1:=IntWalk.i64_in _ (by omega);obtain⟨p,hp⟩:∃p,R.aW[i]? =some p:=⟨_,abI (by rw[mG.out];exact hlt)⟩
    obtain⟨b,off,hA,hbl0,hcs⟩:=(Kk.out.later HB.out) i p hp;subst hA;have hbl:b<wr.heap.size:=hbl0;have HPI:Hid ((R.aW.take (i+1)).flatMap (fun p=>bC p.2)=(R.aW.take i).flatMap (fun p=>bC p.2)++bC p.2):=kH (by rw[yF hp];simp);obtain⟨p1,p2,p3,p4,p5⟩:=p;have t0:wr.cell? ⟨b,off+i*6,none⟩=some (.int .i64 p1):=by simpa using hcs 0 _ rfl
    have t1:wr.cell? ⟨b,off+i*6+1,none⟩=some (.int .i64 p2):=by simpa using hcs 1 _ rfl
    have t2:wr.cell? ⟨b,off+i*6+2,none⟩=some (.int .i64 p3):=by simpa using hcs 2 _ rfl
    have t3:wr.cell? ⟨b,off+i*6+3,none⟩=some (.int .i64 p4):=by simpa using hcs 3 _ rfl
    have t4:wr.cell? ⟨b,off+i*6+4,none⟩=some (.string p5):=by simpa using hcs 4 _ rfl
    have t5:wr.cell? ⟨b,off+i*6+5,none⟩=some (.slice none 0 0):=by simpa using hcs 5 _ rfl
    clear hcs hp hbl0;go_wp2_with (at_builtin;go_must (refine dm _ rfl (.tmp 24) (.tmp 27) _ rfl w3.heap.size 78 i0 _ 5 64 Tryz.underlying31 hi0 hz0 hz1 hz2 rfl (.slice Aw i cw) i ((R.aW.take i).flatMap fun p=>bC p.2) rfl ((HO.out.alloc _).alloc _) ⟨wr.heap.size+1,0,none⟩ 1 1 (bC ⟨p2,p3,p4,p5⟩) rfl rfl (news_dg _ _ _ (by go_simp) (by go_simp) (by go_simp) (by go_simp) (by go_simp)) (by simp[bC,Value.oneCell']) (by simp only[maxLen];omega) (by omega) (by have:=HB.out.size;simp;omega) ?_);intro vn w6 hown hgrow hat;obtain⟨A6,c6,nC,-,-⟩:=hown.shape;subst nC;have HOWN:=kH hown;have qV:=kH hgrow;clear hown hgrow hat)
    have Bg:Hid (aL w6 w3.heap.size 78 5 (.slice A6 (i+1) c6) (i+1) ((R.aW.take (i+1)).flatMap fun p=>bC p.2)):=kH (by rw[HPI.out];exact HOWN.out);have yX:Hid (Below w3.heap.size w3 w6):=kH ((HB.out.trans (((Below.refl _ wr).alloc (abE _) _ |>.alloc (by simp) _).mono HB.out.size)).trans (((aF.refl (fun g=>w3.heap.size<=g) _).grown qV.out (fun g hg=>.inl (HO.out.lt g hg).1)).toBelow (by have:=HB.out.size;simp;omega) (fun g hg=>hg)));clear HOWN qV;go_roundg (gk - 1)
    case measure=>omega
    case rel=>exact⟨i+1,A6,c6,by simp,rfl,by omega,Bg,yX⟩
   ·have hin:i=np:=by omega
    subst hin;have hge:¬((i:Int)<(i:Int)):=by omega
    have hRr:=HR3.out.below HB.out;have Ct:=abq.out.below HB.out abq.out.lt;obtain⟨nd,hnd⟩:∃q,R.ds.length=q:=⟨_,rfl⟩
    obtain⟨nu,hnu⟩:∃q,R.uses.length=q:=⟨_,rfl⟩
    have c3:wr.cell? ⟨E.rp,3,none⟩=some (.slice V.dA nd V.dc):=by rw[<- hnd];exact hRr.blk.cell 3
    have c4:wr.cell? ⟨E.rp,4,none⟩=some (.slice E.uA nu E.uc):=by rw[<- hnu];exact hRr.blk.cell 4
    have lr:=hRr.blk.lt;have r0:=Ct.cell 0;have r1:=Ct.cell 1;have g0:=Ct.frozen 0;have g1:=Ct.frozen 1;have lb:=Ct.lt
    have hne:E.rp≠w.heap.size+1:=fun e=>by
     have h1:wr.heap[E.rp]? =some (Obj.cells _ _ (0,0)):=hRr.blk;have h2:wr.heap[w.heap.size+1]? =some (Obj.cells _ _ (0,0)):=Ct;rw[e,h2]at h1;simp at h1
    have hss:aF (fun g=>g=w.heap.size+1) wr ((wr.drew.setCell ⟨w.heap.size+1,0,none⟩ (.slice V.dA nd V.dc)).setCell ⟨w.heap.size+1,1,none⟩ (.slice E.uA nu E.uc)):=
     aF.setCell (S:=fun g=>g=w.heap.size+1) (aF.setCell (S:=fun g=>g=w.heap.size+1) ((aF.refl _ wr).drew) (p:=⟨w.heap.size+1,0,none⟩) (.inl rfl) _) (p:=⟨w.heap.size+1,1,none⟩) (.inl rfl) _
    have hRz:=hRr.farBlk Ct (by decide) (by decide) (by decide) (by decide) hss
    have hOz:aL ((wr.drew.setCell ⟨w.heap.size+1,0,none⟩ (.slice V.dA nd V.dc)).setCell ⟨w.heap.size+1,1,none⟩ (.slice E.uA nu E.uc)) w.heap.size 78 5 (.slice Aw i cw) i ((bS t).aW.flatMap fun p=>bC p.2):=by
     have:=(HO.out.mono HB3.out.size).since hss (fun q hq h1=>HO.out.bZ Ct (by decide) (by rw[hq,h1]));rw[HRR.out];rw[List.take_of_length_le (by rw[mG.out];exact abE _)]at this;exact this
    have YP:Below w.heap.size w ((wr.drew.setCell ⟨w.heap.size+1,0,none⟩ (.slice V.dA nd V.dc)).setCell ⟨w.heap.size+1,1,none⟩ (.slice E.uA nu E.uc)):=
     ((((HB3.out.trans (HB.out.mono HB3.out.size))).drew).setCell (p:=⟨w.heap.size+1,0,none⟩) (by show w.heap.size<=w.heap.size+1;omega) _).setCell (p:=⟨w.heap.size+1,1,none⟩) (by show w.heap.size<=w.heap.size+1;omega) _
    have hbz:=(Ct.drew.fM 0 (.slice V.dA nd V.dc)).fM 1 (.slice E.uA nu E.uc);have EX:Hid (ai ((wr.drew.setCell ⟨w.heap.size+1,0,none⟩ (.slice V.dA nd V.dc)).setCell ⟨w.heap.size+1,1,none⟩ (.slice E.uA nu E.uc)) (w.heap.size+1) 30 #[.slice V.dA nd V.dc,.slice E.uA nu E.uc]):=kH (by simpa using hbz)
    have aO:Hid (RZ t w (.returned (.tuple #[.agg #[.slice V.dA nd V.dc,.slice E.uA nu E.uc],.slice Aw i cw,.int .i64 0])) ((wr.drew.setCell ⟨w.heap.size+1,0,none⟩ (.slice V.dA nd V.dc)).setCell ⟨w.heap.size+1,1,none⟩ (.slice E.uA nu E.uc))):=kH (by
     refine .inr ⟨vW.out,E,V,Aw,i,cw,by rw[HRR.out,hnd,hnu],HEB.out.1,by rw[HRR.out];exact hRz,by rw[HRR.out,mG.out],hOz,YP⟩)
    clear hRz hOz YP hbz hss hnd hnu hRr Ct;go_wp2_with fail
    refine dY (fun w'=>w'.cell? ⟨E.rp,3,none⟩=some (.slice V.dA nd V.dc)/\w'.cell? ⟨E.rp,4,none⟩=some (.slice E.uA nu E.uc)) [] [true,true,true,true,true,true,true,true,true,true,false,false,false] (by kernel_rfl) (by kernel_rfl) rfl (by kernel_rfl) ?_;have hS0:wr.drew.cell? ⟨E.rp,3,none⟩=some (.slice V.dA nd V.dc)/\wr.drew.cell? ⟨E.rp,4,none⟩=some (.slice E.uA nu E.uc):=⟨c3,c4⟩
    iterate 10(refine gP rfl hS0 (by intro w' hSw;obtain⟨hs1,hs2⟩:=hSw;go_simp;rfl) ?_;simp only[Act.put,sA,sZ,sC])
    refine gZ (w':=(wr.drew.setCell ⟨w.heap.size+1,0,none⟩ (.slice V.dA nd V.dc)).setCell ⟨w.heap.size+1,1,none⟩ (.slice E.uA nu E.uc)) rfl (by go_simp) (fun _=>⟨by go_simp,by go_simp⟩) ?_;simp only[Act.put];iterate 2(refine gH (w':=(wr.drew.setCell ⟨w.heap.size+1,0,none⟩ (.slice V.dA nd V.dc)).setCell ⟨w.heap.size+1,1,none⟩ (.slice E.uA nu E.uc)) rfl (by go_simp;rfl) (fun _=>⟨by go_simp,by go_simp⟩) ?_;simp only[Act.put,sA,sZ,sC])
    refine iT ?_;clear hS0 r0 r1 g0 g1 c3 c4;generalize (wr.drew.setCell ⟨w.heap.size+1,0,none⟩ (.slice V.dA nd V.dc)).setCell ⟨w.heap.size+1,1,none⟩ (.slice E.uA nu E.uc)=WZ at aO EX⊢
    have r0:=EX.out.cell 0;have r1:=EX.out.cell 1;go_wp2_with fail
    try simp only[Exit.inBlock,Exit.then]
    refine bodyPost_ret (v:=.tuple #[.agg #[.slice V.dA nd V.dc,.slice E.uA nu E.uc],.slice Aw i cw,.int .i64 0]) (by simp[results,Tryz.results12,go_sem,r0,r1]) rfl ?_;exact aO.out
theorem VP{K:Type}[DecidableEq K](x:K×Value)(m:List (K×Value))(k:K):nD (x::m) k=if k=x.1 then some x.2 else nD m k:=by
 unfold nD;rw[mg];by_cases h:k=x.1
 ·rw[if_pos h,if_pos h];rfl
 ·rw[if_neg h,if_neg h]
  have:=DK k m 1 0;rw[Nat.add_zero]at this;rw[this];cases mg k m 0<;>rfl
theorem fB.look{w:World}{base:Nat}{ub:Option Nat}(k:Int):∀{l:List (Int×List Int)}{vals:List (Int×Value)},fB w base ub l vals ->
 ∃v,(nD vals k).getD (.slice none 0 0)=v/\aL w base 3 1 v ((bG l k).getD []).length (gY ((bG l k).getD []))
 | [],vals,h=>by
  have:vals=[]:=h;subst this;exact⟨_,rfl,aL.nil _ _ _ _⟩
 | x::l,vals,⟨v,vs,h1,h2,h3,h4⟩=>by
  subst h1;rw[VP,bG];by_cases hk:k=x.1
  ·rw[if_pos hk,if_pos hk]
   exact⟨v,rfl,h2⟩
  ·rw[if_neg hk,if_neg hk]
   exact fB.look k h4
theorem Xt(w:World):(zeroValue 28).run Tryz.prog w= .ok (.slice none 0 0) w:=by go_simp
def qI(t:ae)(k:Int):List Int:=if iJ t then(bG (bS t).aS k).getD [] else []
theorem Tu(t:ae)(A:Option Addr)(c:Nat)(num:Int)(w:World)(hN:au t<=1000000)(hcap:t.kids.length<=c)(hk:aK w w.heap.size A 0 t.kids):
 Calls Tryz.prog 17 #[bD t A c,.int .i64 num] w fun e w'=> ∃v,e= .returned v/\aL w' w.heap.size 3 1 v (qI t num).length (gY (qI t num))/\Below w.heap.size w w':=by
 obtain⟨k0,x0,a0,z0,n0,-,-,-,-,-,kX⟩:=fq t A c;obtain⟨W1,hW1⟩:∃W1,w.alloc (.cells #[.int .i64 k0,.string x0,.int .i64 a0,.int .i64 z0,.slice A n0 c] 24)=W1:=⟨_,rfl⟩
 have hnb:ai W1 w.heap.size 24 #[.int .i64 k0,.string x0,.int .i64 a0,.int .i64 z0,.slice A n0 c]:=by rw[<- hW1];exact ai.new w _ _
 have hb1:Below w.heap.size w W1:=by rw[<- hW1];exact ag w _
 have hval:=Ot t A c W1 (by omega) (aK.mono hb1.size _ _ _ (aK.below hb1 (abE _) _ _ _ hk));rw[kX]at hval⊢;obtain⟨vb,hvb⟩:∃q,iJ t=q:=⟨_,rfl⟩
 obtain⟨Z,hZ⟩:∃Z,qI t num=Z:=⟨_,rfl⟩
 rw[hZ];unfold qI at hZ;rw[hvb]at hval hZ;have Gq:=kH hval;have HZ:=kH hZ;have vW:=kH hvb;have lD:=kH hnb;have HB1:=kH hb1;have BV:=kH kX;have HCAP:=kH hcap;have HK:=kH hk;have m0:=hnb.cell 0;have m1:=hnb.cell 1;have m2:=hnb.cell 2;have m3:=hnb.cell 3;have m4:=hnb.cell 4;have lm:=hnb.lt;clear hval hvb hnb hb1 kX hcap hk hZ;go_enter Tryz.func17,Tryz.ntmps17
 go_wp2_with fail
 clear hW1 m0 m1 m2 m3 m4 lm;refine Gq.out.mono ?_;rintro e2 w2 ⟨rfl,hb2⟩;have HB2:Hid (Below w.heap.size w w2):=kH (HB1.out.trans (hb2.mono HB1.out.size));have qj:=kH (lD.out.below hb2 lD.out.lt);clear hb2
 cases vb with
 | false=>
  have hz:Z=[]:=by rw[<- HZ.out];rfl
  subst hz;go_wp2_with fail
  go_ret
  exact⟨_,rfl,aL.nil _ _ _ _,HB2.out⟩
 | true=>
  have hres:=Hu t A c w2 (Nl vW.out) hN HCAP.out (aK.mono HB2.out.size _ _ _ (aK.below HB2.out (abE _) _ _ _ HK.out));rw[BV.out]at hres;have aM:=kH hres;have m0:=qj.out.cell 0;have m1:=qj.out.cell 1;have m2:=qj.out.cell 2;have m3:=qj.out.cell 3;have m4:=qj.out.cell 4;have lm:=qj.out.lt;clear hres;go_wp2_with fail
  clear m0 m1 m2 m3 m4 lm;refine aM.out.mono ?_;rintro e3 w3 ⟨E,V,rfl,BO,bT,hb3⟩;have hlk:=vg (P:=Tryz.prog) (KK:=kC) (t:=72) (kt:=3) (et:=28) Tryz.underlying72 Tryz.underlying3 Xt bT.vi num;obtain⟨v,hv,ho⟩:=fB.look num bT.aS;rw[hv]at hlk;change (Instr.lookup 72 (.map (some E.vi)) (.int .i64 num) false).run Tryz.prog w3=_ at hlk;have hz:(bG (bS t).aS num).getD []=Z:=by rw[<- HZ.out];rfl
  rw[hz]at ho;have c5:w3.cell? ⟨E.rp,5,none⟩=some (.map (some E.vi)):=bT.blk.cell 5;have lr:=bT.blk.lt;have HO:Hid (aL w3 w.heap.size 3 1 v Z.length (gY Z)):=kH (ho.mono (by rw[BO];exact HB2.out.size));have HB3:Hid (Below w.heap.size w w3):=kH (HB2.out.trans (hb3.mono HB2.out.size));clear BO bT hb3 hv ho hz aM;go_wp2_with fail
  go_ret
  exact⟨v,rfl,HO.out,HB3.out⟩
theorem zB{w:World}{g:Nat}{a b c d e:Value}:aF (fun x=>x=g) w (ek w g a b c d e):=by
 unfold ek;exact(((((aF.refl (fun x=>x=g) w).setCell (.inl rfl) _).setCell (.inl rfl) _).setCell (.inl rfl) _).setCell (.inl rfl) _).setCell (.inl rfl) _
def jN(i:Nat):List Value:=[.int .i64 (i:Int)]
structure RE where
 lo:Nat
 base:Nat
 rp:Nat
 uA:Option Addr
 uc:Nat
 gA:Option Addr
 gc:Nat
structure RQ where
 dA:Option Addr
 dc:Nat
 lA:Option Addr
 lc:Nat
 aA:Option Addr
 ac:Nat
def Tw(E:RE)(w:World)(g:Nat):Prop:=g=E.rp\/E.uA.map (·.block)=some g\/(E.base<=g/\∃cs t fr,w.heap[g]? =some (.cells cs t fr)/\(t=49\/t=78))
def KW(E:RE)(w w':World):Prop:=aF (Tw E w) w w'
def gK(w:World)(ub:Option Nat)(A:Option Addr)(s:List Nat):Prop:=
 ∀(i x:Nat),s[i]? =some x->∃b off cs,A=some ⟨b,off,none⟩/\ub≠some b/\w.heap[b]? =some (.cells cs 3 (0,0))/\w.cell? ⟨b,off+i,none⟩=some (.int .i64 (x:Int))
structure dL (E:RE) (G:List Dc) (mk:Int) (q:RW) (V:RQ) (w:World):Prop where
 blk:ai w E.rp 84 #[.slice V.dA q.ds.length V.dc,.slice E.uA q.uses.length E.uc,.slice V.lA q.list.length V.lc,.slice E.gA G.length E.gc,.int .i64 (q.num:Int),.int .i64 mk,.slice V.aA q.at_.length V.ac]
 ds:aL w E.base 49 4 (.slice V.dA q.ds.length V.dc) q.ds.length (q.ds.flatMap cB)
 us:aL w E.lo 3 1 (.slice E.uA q.uses.length E.uc) q.uses.length (gY q.uses)
 ls:aL w E.base 78 5 (.slice V.lA q.list.length V.lc) q.list.length (q.list.flatMap bC)
 gl:aL w E.lo 49 4 (.slice E.gA G.length E.gc) G.length (G.flatMap cB)
 gb:∀g,(Value.slice E.gA G.length E.gc).ownBlock=some g->g<E.base
 at_:gK w (Value.slice E.uA q.uses.length E.uc).ownBlock V.aA q.at_
 low:E.lo<=E.base/\E.lo<=E.rp
 cap:q.at_.length<=V.ac
theorem GU(A:Option Addr)(n c:Nat):(Value.slice A n c).ownBlock=A.map (·.block):=by
 cases A<;>rfl
section
variable {E:RE}{w w1 w':World}
theorem KW.refl(E:RE)(w:World):KW E w w:=aF.refl _ _
theorem KW.trans(h:KW E w w1)(k:KW E w1 w'):KW E w w':=by
 refine h.step k fun g hg=>?_
 by_cases hlt:g<w.heap.size
 ·left
  by_cases hT:Tw E w g
  ·exact hT
  ·have he:=h.block g hlt hT
   rcases hg with h1|h1| ⟨h1,h2⟩
   ·exact .inl h1
   ·exact .inr (.inl h1)
   ·rw[he]at h2
    exact .inr (.inr ⟨h1,h2⟩)
 ·right
  omega
theorem KW.of_below(hb:Below w.heap.size w w'):KW E w w':=(aF.refl _ _).below hb
theorem KW.low{G:List Dc}{mk:Int}{q:RW}{V:RQ}(h:KW E w w')(hR:dL E G mk q V w):Below E.lo w w':=by
 refine aF.toBelow h (by have:=hR.blk.lt;have:=hR.low.2;omega) fun k hk=>?_
 rcases hk with hk|hk| ⟨hk,-⟩
 ·have:=hR.low.2
  omega
 ·exact(hR.us.lt k (by rw[GU];exact hk)).1
 ·have:=hR.low.1
  omega
theorem KW.blk(h:KW E w w'){g:Nat}{t:TypeId}{cs:Array Value}(hb:ai w g t cs)(h1:g≠E.rp)(h2:t≠49)(h3:t≠78)(h4:E.uA.map (·.block)≠some g):ai w' g t cs:=by
 refine ai.since hb h fun h5=>?_
 rcases h5 with h5|h5| ⟨-,cs',t',fr',h6,h7⟩
 ·exact h1 h5
 ·exact h4 h5
 ·have hb':w.heap[g]? =some (.cells cs t (0,0)):=hb
  rw[hb']at h6;simp at h6;obtain⟨_,rfl,_⟩:=h6;rcases h7 with h7|h7
  ·exact h2 h7
  ·exact h3 h7
theorem gK.kw{ub:Option Nat}{A:Option Addr}{s:List Nat}(hs:gK w ub A s)(h:KW E w w')(hu:ub=E.uA.map (·.block))(hr:∃cs,ai w E.rp 84 cs):gK w' ub A s:=by
 intro i x hi;obtain⟨b,off,cs,h1,h2,h3,h4⟩:=hs i x hi;have hB:ai w b 3 cs:=h3;obtain⟨rc,hrc⟩:=hr
 have hne:b≠E.rp:=by
  rintro rfl;have e1:w.heap[E.rp]? =some (.cells rc 84 (0,0)):=hrc;rw[h3]at e1;simp only[abJ,Obj.cells.injEq]at e1;exact absurd e1.2.1 (by decide)
 have hB':=h.blk hB hne (by decide) (by decide) (by rw[<- hu];exact h2);exact⟨b,off,cs,h1,h2,hB',by rw[hB'.cell];rw[hB.cell]at h4;exact h4⟩
end
theorem gK.nil(w:World)(ub:Option Nat)(A:Option Addr):gK w ub A []:=fun i x h=>by simp at h
theorem gK.below{w w':World}{ub:Option Nat}{A:Option Addr}{s:List Nat}(hs:gK w ub A s)(hb:Below w.heap.size w w'):gK w' ub A s:=by
 intro i x hi;obtain⟨b,off,cs,h1,h2,h3,h4⟩:=hs i x hi;have hB:ai w b 3 cs:=h3;have hB':=hB.below hb hB.lt;exact⟨b,off,cs,h1,h2,hB',by rw[hB'.cell];rw[hB.cell]at h4;exact h4⟩
theorem gK.rowAt{w:World}{ub:Option Nat}{A:Option Addr}{s:List Nat}(hs:gK w ub A s):bN 1 jN w w.heap.size A s:=by
 intro k x hk;obtain⟨b,off,cs,h1,h2,h3,h4⟩:=hs k x hk;have hB:ai w b 3 cs:=h3;refine⟨b,off,h1,hB.lt,fun j v hj=>?_⟩
 match j,hj with
 | 0,hj=>
  have:v= .int .i64 (x:Int):=by simpa [jN] using hj.symm
  rw[this,Nat.mul_one,Nat.add_zero];exact h4
 | j+1,hj=>simp[jN]at hj
theorem gK.X6{w:World}{base n c:Nat}{A:Option Addr}{s:List Nat}{ub:Option Nat}(h:aL w base 3 1 (.slice A n c) n (s.flatMap jN))(hn:s.length=n)(hub:∀g,(Value.slice A n c).ownBlock=some g->ub≠some g):gK w ub A s:=by
 intro i x hi;have hlt:i<n:=by rw[<- hn];exact(abK.1 hi).1
 obtain⟨g,off,cap,hv,-,-,-,-,hc⟩:=h.form (by omega);cases hv
 obtain⟨cs,hcs⟩:=h.typed (g:=g) rfl;refine⟨g,off,cs,rfl,hub g rfl,hcs,hc i _ ?_⟩;clear h hc hcs hub hn hlt
 induction s generalizing i with
 | nil=>simp at hi
 | cons y s ih=>
  rw[List.flatMap_cons]
  cases i with
  | zero=>
   simp at hi;subst hi;rfl
  | succ i=>
   rw[abO (by simp[jN])];exact ih i (by simpa using hi)
section
variable {E:RE}{G:List Dc}{mk:Int}{q:RW}{V:RQ}{w w':World}
theorem dL.below(h:dL E G mk q V w)(hb:Below w.heap.size w w'):dL E G mk q V w':=
 ⟨h.blk.below hb h.blk.lt,h.ds.below hb fun g hg=>(h.ds.lt g hg).2,h.us.below hb fun g hg=>(h.us.lt g hg).2,h.ls.below hb fun g hg=>(h.ls.lt g hg).2,h.gl.below hb fun g hg=>(h.gl.lt g hg).2,h.gb,h.at_.below hb,h.low,h.cap⟩
theorem dL.VM(h:dL E G mk q V w):(Value.slice V.dA q.ds.length V.dc).ownBlock≠some E.rp:=h.ds.bZ h.blk (by decide)
theorem dL.ne_us(h:dL E G mk q V w):(Value.slice E.uA q.uses.length E.uc).ownBlock≠some E.rp:=h.us.bZ h.blk (by decide)
theorem dL.VL(h:dL E G mk q V w):(Value.slice V.lA q.list.length V.lc).ownBlock≠some E.rp:=h.ls.bZ h.blk (by decide)
theorem dL.ne_gl(h:dL E G mk q V w):(Value.slice E.gA G.length E.gc).ownBlock≠some E.rp:=h.gl.bZ h.blk (by decide)
theorem gK.setCell{ub:Option Nat}{A:Option Addr}{s:List Nat}(hs:gK w ub A s){g:Nat}(hg:∀cs,w.heap[g]? =some (.cells cs 3 (0,0))->ub=some g)(o:Nat)(u:Value):gK (w.setCell ⟨g,o,none⟩ u) ub A s:=by
 intro i x hi;obtain⟨b,off,cs,h1,h2,h3,h4⟩:=hs i x hi
 have hne:b≠g:=by
  rintro rfl;exact h2 (hg cs h3)
 have hB:ai w b 3 cs:=h3;have hB':=hB.far (p:=⟨g,o,none⟩) hne u;exact⟨b,off,cs,h1,h2,hB',by rw[hB'.cell];rw[hB.cell]at h4;exact h4⟩
theorem gK.grown{ub:Option Nat}{A:Option Addr}{s:List Nat}{row:Option Nat}(hs:gK w ub A s)(hg:w.grownBy w' row)(hr:∀g cs,row=some g->w.heap[g]? =some (.cells cs 3 (0,0))->ub=some g):gK w' ub A s:=by
 intro i x hi;obtain⟨b,off,cs,h1,h2,h3,h4⟩:=hs i x hi;have hB:ai w b 3 cs:=h3;have hB':=hB.grown hg (fun e=>h2 (hr b cs e.symm h3));exact⟨b,off,cs,h1,h2,hB',by rw[hB'.cell];rw[hB.cell]at h4;exact h4⟩
theorem dL.Yd(h:dL E G mk q V w){ub:Option Nat}:∀cs,w.heap[E.rp]? =some (.cells cs 3 (0,0))->ub=some E.rp:=by
 intro cs hc;have e1:w.heap[E.rp]? =some (Obj.cells _ _ (0,0)):=h.blk;rw[hc]at e1;simp only[abJ,Obj.cells.injEq]at e1;exact absurd e1.2.1 (by decide)
theorem dL.num_(h:dL E G mk q V w)(m:Nat):dL E G mk { q with num:=m } V (w.setCell ⟨E.rp,4,none⟩ (.int .i64 (m:Int))):=
 ⟨by have:=h.blk.fM 4 (.int .i64 (m:Int));simpa using this,h.ds.setCell (p:=⟨E.rp,4,none⟩) h.VM _,h.us.setCell (p:=⟨E.rp,4,none⟩) h.ne_us _,h.ls.setCell (p:=⟨E.rp,4,none⟩) h.VL _,h.gl.setCell (p:=⟨E.rp,4,none⟩) h.ne_gl _,h.gb,h.at_.setCell h.Yd 4 _,h.low,h.cap⟩
theorem dL.mark_(h:dL E G mk q V w){A:Option Addr}{c:Nat}{s:List Nat}(hs:gK w (Value.slice E.uA q.uses.length E.uc).ownBlock A s)(hc:s.length<=c):dL E G mk { q with at_:=s } { V with aA:=A,ac:=c } (w.setCell ⟨E.rp,6,none⟩ (.slice A s.length c)):=
 ⟨by have:=h.blk.fM 6 (.slice A s.length c);simpa using this,h.ds.setCell (p:=⟨E.rp,6,none⟩) h.VM _,h.us.setCell (p:=⟨E.rp,6,none⟩) h.ne_us _,h.ls.setCell (p:=⟨E.rp,6,none⟩) h.VL _,h.gl.setCell (p:=⟨E.rp,6,none⟩) h.ne_gl _,h.gb,hs.setCell h.Yd 6 _,h.low,hc⟩
theorem CZ{w:World}{g g':Nat}{cs cs':Array Value}{t t':TypeId}{fr fr':Nat×Nat}(h:w.heap[g]? =some (.cells cs t fr))(h':w.heap[g']? =some (.cells cs' t' fr'))(ht:t≠t'):g≠g':=by
 rintro rfl;rw[h]at h';simp only[abJ,Obj.cells.injEq]at h';exact ht h'.2.1
theorem dL.Jb(h:dL E G mk q V w){g off:Nat}(hA:E.uA=some ⟨g,off,none⟩)(i:Nat)(hi:i<q.uses.length)(k:Int):dL E G mk { q with uses:=q.uses.set i k } V (w.setCell ⟨g,off+i,none⟩ (.int .i64 k)):=by
 have mK:=h.us;rw[hA]at mK;obtain⟨cs,hcs⟩:=mK.typed (g:=g) rfl
 have how:∀{b e size v n xs},aL w b e size v n xs->e≠3->aL (w.setCell ⟨g,off+i,none⟩ (.int .i64 k)) b e size v n xs:=fun ho hne=>ho.setCell (p:=⟨g,off+i,none⟩) (fun e1=>by
  obtain⟨cs',hc'⟩:=ho.typed e1
  exact CZ hc' hcs hne rfl) _
 have Lr:E.rp≠g:=CZ h.blk hcs (by decide);have hlen:(q.uses.set i k).length=q.uses.length:=by simp
 refine⟨?_,how h.ds (by decide),?_,how h.ls (by decide),how h.gl (by decide),h.gb,?_,h.low,h.cap⟩
 ·show ai _ _ _ #[_,.slice E.uA (q.uses.set i k).length E.uc,_,_,_,_,_]
  rw[hlen];exact h.blk.far (p:=⟨g,off+i,none⟩) Lr _
 ·show aL _ _ _ _ (.slice E.uA (q.uses.set i k).length E.uc) (q.uses.set i k).length (gY (q.uses.set i k))
  rw[hlen,hA,show gY (q.uses.set i k)=(gY q.uses).set i (.int .i64 k) from List.map_set];exact mK.set1 i hi _
 ·show gK _ (Value.slice E.uA (q.uses.set i k).length E.uc).ownBlock _ _
  rw[hlen];exact h.at_.setCell (fun _ _=>by rw[GU,hA];rfl) _ _
theorem dL.note_(h:dL E G mk q V w){A:Option Addr}{c:Nat}(d:Dg)(hO:aL w' E.base 78 5 (.slice A (q.list.length+1) c) (q.list.length+1) ((q.list++[d]).flatMap bC))(hg:w.grownBy w' (Value.slice V.lA q.list.length V.lc).ownBlock):dL E G mk { q with list:=q.list++[d] } { V with lA:=A,lc:=c } (w'.setCell ⟨E.rp,2,none⟩ (.slice A (q.list.length+1) c)):=by
 have hlen:(q.list++[d]).length=q.list.length+1:=by simp
 have how:∀{b e size v n xs},aL w b e size v n xs->e≠78->e≠84->aL (w'.setCell ⟨E.rp,2,none⟩ (.slice A (q.list.length+1) c)) b e size v n xs:=fun ho hne hne2=>(ho.kept hg (by
  cases hv:Value.ownBlock _ with
  | none=>exact .inl rfl
  | some g=>
   refine .inr fun e1=>?_
   exact ho.apart h.ls hne g hv e1.symm)).setCell (p:=⟨E.rp,2,none⟩) (ho.bZ h.blk hne2 ) _
 have hb:=h.blk.grown hg (fun e=>h.VL e.symm);refine⟨?_,how h.ds (by decide) (by decide),how h.us (by decide) (by decide),?_,how h.gl (by decide) (by decide),h.gb,?_,h.low,h.cap⟩
 ·show ai _ _ _ #[_,_,.slice A (q.list++[d]).length c,_,_,_,_]
  rw[hlen];have:=hb.fM 2 (.slice A (q.list.length+1) c);simpa using this
 ·show aL _ _ _ _ (.slice A (q.list++[d]).length c) (q.list++[d]).length _
  rw[hlen];exact hO.setCell (p:=⟨E.rp,2,none⟩) (hO.bZ hb (by decide)) _
 ·refine(h.at_.grown hg fun g cs e1 hc=>?_).setCell (fun cs hc=>?_) _ _
  ·obtain⟨cs',hc'⟩:=h.ls.typed e1
   exact absurd rfl (CZ hc hc' (by decide))
  ·exact absurd rfl (CZ hb hc (by decide))
theorem dL.decl_(h:dL E G mk q V w){A:Option Addr}{c:Nat}(d:Dc)(hO:aL w' E.base 49 4 (.slice A (q.ds.length+1) c) (q.ds.length+1) ((q.ds++[d]).flatMap cB))(hg:w.grownBy w' (Value.slice V.dA q.ds.length V.dc).ownBlock):dL E G mk { q with ds:=q.ds++[d] } { V with dA:=A,dc:=c } (w'.setCell ⟨E.rp,0,none⟩ (.slice A (q.ds.length+1) c)):=by
 have hlen:(q.ds++[d]).length=q.ds.length+1:=by simp
 have how:∀{b e size v n xs},aL w b e size v n xs->(∀g,v.ownBlock=some g->(Value.slice V.dA q.ds.length V.dc).ownBlock≠some g)->e≠84->aL (w'.setCell ⟨E.rp,0,none⟩ (.slice A (q.ds.length+1) c)) b e size v n xs:=fun ho hne hne2=>(ho.kept hg (by
  cases hv:Value.ownBlock _ with
  | none=>exact .inl rfl
  | some g=>
   refine .inr fun e1=>?_
   exact hne g hv e1.symm)).setCell (p:=⟨E.rp,0,none⟩) (ho.bZ h.blk hne2) _
 have hb:=h.blk.grown hg (fun e=>h.VM e.symm);refine⟨?_,?_,how h.us (h.us.apart h.ds (by decide)) (by decide),how h.ls (h.ls.apart h.ds (by decide)) (by decide),how h.gl (fun g h1 h2=>?_) (by decide),h.gb,?_,h.low,h.cap⟩
 ·show ai _ _ _ #[.slice A (q.ds++[d]).length c,_,_,_,_,_,_]
  rw[hlen];have:=hb.fM 0 (.slice A (q.ds.length+1) c);simpa using this
 ·show aL _ _ _ _ (.slice A (q.ds++[d]).length c) (q.ds++[d]).length _
  rw[hlen];exact hO.setCell (p:=⟨E.rp,0,none⟩) (hO.bZ hb (by decide)) _
 ·have:=h.gb g h1
  have:=(h.ds.lt g h2).1;omega
 ·refine(h.at_.grown hg fun g cs e1 hc=>?_).setCell (fun cs hc=>?_) _ _
  ·obtain⟨cs',hc'⟩:=h.ds.typed e1
   exact absurd rfl (CZ hc hc' (by decide))
  ·exact absurd rfl (CZ hb hc (by decide))
theorem TP{A:Option Addr}{n c:Nat}{e:TypeId}{size:Nat}{xs:List Value}(hO:aL w E.base e size (.slice A n c) n xs)(he:e=49\/e=78)(hg:w.grownBy w' (Value.slice A n c).ownBlock)(i:Nat)(u:Value):KW E w (w'.setCell ⟨E.rp,i,none⟩ u):=
 ((aF.refl (Tw E w) w).grown hg fun k hk=>.inl (.inr (.inr ⟨(hO.lt k hk).1,by
  obtain⟨cs,hc⟩:=hO.typed hk
  exact⟨cs,e,(0,0),hc,he⟩⟩))).setCell (p:=⟨E.rp,i,none⟩) (.inl (.inl rfl)) u
theorem Yi(E:RE)(w:World)(i:Nat)(u:Value):KW E w (w.setCell ⟨E.rp,i,none⟩ u):=(aF.refl _ w).setCell (p:=⟨E.rp,i,none⟩) (.inl (.inl rfl)) u
theorem kw_use{g off:Nat}(hA:E.uA=some ⟨g,off,none⟩)(w:World)(i:Nat)(u:Value):KW E w (w.setCell ⟨g,off+i,none⟩ u):=(aF.refl _ w).setCell (p:=⟨g,off+i,none⟩) (.inl (.inr (.inl (by rw[hA];rfl)))) u
end
end Go.Proofs.YtoepemlnlpamlaaGreat
