/- The law NamesStand holds: for every text and every number the law returns true, and its arguments read as before. No condition. Part 36: Res3 Visib HeldQ. -/
import Derived.Test.YtoepemlnlpamlaaGreatStand13
import Derived.Test.YtoepemlnlpamlaaGreatStand15
import Derived.Test.YtoepemlnlpamlaaGreatStand33
import Derived.Test.YtoepemlnlpamlaaGreatStand35
set_option maxRecDepth 100000
set_option maxHeartbeats 4000000
namespace Go.Proofs.YtoepemlnlpamlaaGreat
open Go.RowKit
def Xp(t:aa)(w:World)(e:Ending)(w':World):Prop:=
 (j6 t=false/\e= .returned (.tuple #[.agg #[.slice none 0 0,.slice none 0 0],.slice none 0 0,.int .i64 1])/\Below w.heap.size w w') \/
 (j6 t=true/\∃E V A n c,e= .returned (.tuple #[.agg #[.slice V.dA (cK t).ds.length V.dc,.slice E.uA (cK t).uses.length E.uc],.slice A n c,.int .i64 0])/\w.heap.size<=E.base/\bf E (fG t) (cK t) V w'/\n=(cK t).aR.length/\aP w' w.heap.size 78 5 (.slice A n c) n ((cK t).aR.flatMap fun p=>cO p.2)/\Below w.heap.size w w')
theorem bf.farBlk{E:RC}{G:bD}{r:RS}{V:RV}{w w':World}{g:Nat}{t:TypeId}{cs:Array Value}(h:bf E G r V w)(hb:ak w g t cs)(h1:t≠75)(h2:t≠3)(h3:t≠49)(h4:t≠80)(hs:aA (fun x=>x=g) w w'):bf E G r V w':=by
 have iF:∀{K:Type} [DecidableEq K] {KK:oM K}{q:Nat}{m:List (K×Value)},aY KK w q m->aY KK w' q m:=fun ha=>ha.since hs (fun h1=>ha.qW hb h1)
 have how:∀{e size v n xs},aP w E.base e size v n xs->t≠e->aP w' E.base e size v n xs:=fun ha hne=>ha.since hs (fun q hq h1=>ha.fe hb hne.symm (by rw[hq,h1]))
 refine⟨h.blk.since hs (fun e=>?_),iF h.gl,iF h.fl,iF h.kn,iF h.vi,fM.of_block h.bH fun q cur hq _=>hs.block q (aae.1 hq).1 fun e=>?_,how h.ds h3,how h.us h2,how h.ps h4,h.low,h.apart⟩
 ·have e1:w.heap[E.rp]? =some (Obj.cells _ _ (0,0)):=h.blk
  have e2:w.heap[g]? =some (Obj.cells _ _ (0,0)):=hb;rw[e,e2]at e1;simp only[aag,Obj.cells.injEq]at e1;exact h1 e1.2.1
 ·have e2:w.heap[g]? =some (Obj.cells _ _ (0,0)):=hb
  rw[e,e2]at hq;simp only[aag,Obj.cells.injEq]at hq;exact h2 hq.2.1
theorem news_dg(w:World)(g:Nat)(d:Dg)(h0:w.cell? ⟨g,0,none⟩=some (.int .i64 d.code))(h1:w.cell? ⟨g,1,none⟩=some (.int .i64 d.at_))(h2:w.cell? ⟨g,2,none⟩=some (.int .i64 d.end_))(h3:w.cell? ⟨g,3,none⟩=some (.string d.text))(h4:w.cell? ⟨g,4,none⟩=some (.slice none 0 0)):
 ∀j v,(cO d)[j]? =some v->w.cell? ((⟨g,0,none⟩:Addr).add j)=some v:=by
 intro j v hj
 match j,hj with
 | 0,hj=>cases hj;exact h0
 | 1,hj=>cases hj;simpa [Addr.add] using h1
 | 2,hj=>cases hj;simpa [Addr.add] using h2
 | 3,hj=>cases hj;simpa [Addr.add] using h3
 | 4,hj=>cases hj;simpa [Addr.add] using h4
 | j+5,hj=>simp[cO]at hj
theorem Hd(t:aa)(A:Option Addr)(c:Nat)(w:World)(hN:ai t<=1000000)(hcap:t.kids.length<=c)(hk:aK w w.heap.size A 0 t.kids):
 Calls Tryz.prog 12 #[bB t A c] w (Xp t w):=by
 obtain⟨k0,x0,a0,z0,n0,-,-,-,-,-,ji⟩:=gD t A c;obtain⟨i0,hi0,hz0,hz1,hz2⟩:=info_parts Gg;obtain⟨W1,hW1⟩:∃W1,(w.alloc (.cells #[.int .i64 k0,.string x0,.int .i64 a0,.int .i64 z0,.slice A n0 c] 24)).alloc (.cells #[.slice none 0 0,.slice none 0 0] 30)=W1:=⟨_,rfl⟩
 have hnb:ak W1 w.heap.size 24 #[.int .i64 k0,.string x0,.int .i64 a0,.int .i64 z0,.slice A n0 c]:=by rw[<- hW1];exact(ak.new w _ _).alloc _
 have hrb:ak W1 (w.heap.size+1) 30 #[.slice none 0 0,.slice none 0 0]:=by
  rw[<- hW1];have:=ak.new (w.alloc (.cells #[.int .i64 k0,.string x0,.int .i64 a0,.int .i64 z0,.slice A n0 c] 24)) 30 #[.slice none 0 0,.slice none 0 0];simpa using this
 have hb1:Below w.heap.size w W1:=by rw[<- hW1];exact(ae w _).trans ((ae _ _).mono (by simp))
 have hval:=M6 t A c W1 (by omega) (aK.mono hb1.size _ _ _ (aK.below hb1 (aab _) _ _ _ hk));rw[ji]at hval⊢;obtain⟨vb,hvb⟩:∃q,j6 t=q:=⟨_,rfl⟩
 rw[hvb]at hval;have LC:=kH hval;have zk:=kH hvb;have lV:=kH hnb;have dC:=kH hrb;have HB1:=kH hb1;have Bl:=kH ji;have HCAP:=kH hcap;have HK:=kH hk;have m0:=hnb.cell 0;have m1:=hnb.cell 1;have m2:=hnb.cell 2;have m3:=hnb.cell 3;have m4:=hnb.cell 4;have lm:=hnb.lt;clear hval hvb hnb hrb hb1 ji hcap hk;go_enter Tryz.func12,Tryz.ntmps12
 go_wp2_with fail
 clear hW1 m0 m1 m2 m3 m4 lm;refine LC.out.mono ?_;rintro e2 w2 ⟨rfl,hb2⟩;have HB2:Hid (Below w.heap.size w w2):=kH (HB1.out.trans (hb2.mono HB1.out.size));have vG:=kH (lV.out.below hb2 lV.out.lt);have Ji:=kH (dC.out.below hb2 dC.out.lt);clear hb2
 cases vb with
 | false=>
  have r0:=Ji.out.cell 0;have r1:=Ji.out.cell 1;have g0:=Ji.out.frozen 0;have g1:=Ji.out.frozen 1;have lr:=Ji.out.lt;go_wp2_with fail
  try simp only[Exit.inBlock,Exit.then]
  refine bodyPost_ret (v:=.tuple #[.agg #[.slice none 0 0,.slice none 0 0],.slice none 0 0,.int .i64 1]) (by simp[results,Tryz.results12,go_sem,r0,r1]) rfl ?_;exact .inl ⟨zk.out,rfl,(HB2.out.setCell (p:=⟨w.heap.size+1,0,none⟩) (by show w.heap.size<=w.heap.size+1;omega) _).setCell (p:=⟨w.heap.size+1,1,none⟩) (by show w.heap.size<=w.heap.size+1;omega) _⟩
 | true=>
  have hres:=Gs t A c w2 (LY zk.out) hN HCAP.out (aK.mono HB2.out.size _ _ _ (aK.below HB2.out (aab _) _ _ _ HK.out));rw[Bl.out]at hres;have aV:=kH hres;have m0:=vG.out.cell 0;have m1:=vG.out.cell 1;have m2:=vG.out.cell 2;have m3:=vG.out.cell 3;have m4:=vG.out.cell 4;have lm:=vG.out.lt;clear hres;go_wp2_with fail
  clear m0 m1 m2 m3 m4 lm;refine aV.out.mono ?_;rintro e3 w3 ⟨E,V,rfl,Ea,dD,hb3⟩;have Zw:=kH (Ji.out.below hb3 Ji.out.lt);have HB3:Hid (Below w.heap.size w w3):=kH (HB2.out.trans (hb3.mono HB2.out.size));have HEB:Hid (w.heap.size<=E.base/\w.heap.size+1<w3.heap.size):=kH ⟨by rw[Ea];exact HB2.out.size,Zw.out.lt⟩;obtain⟨R,hR⟩:∃R,cK t=R:=⟨_,rfl⟩
  rw[hR]at dD;have HRR:=kH hR;obtain⟨np,vO⟩:∃q,R.aR.length=q:=⟨_,rfl⟩
  have hnpm:np<=1000000:=by
   rw[<- vO,<- hR];have h1:=(CR (fG t) t false [] ⟨[],List.replicate (ai t) (-1),[],[],0,0⟩).aR;have h2:=Lm (fG t) t false [] ⟨[],List.replicate (ai t) (-1),[],[],0,0⟩;show(aL (fG t) false t [] ⟨[],List.replicate (ai t) (-1),[],[],0,0⟩).1.aR.length<=_;generalize (aL (fG t) false t [] ⟨[],List.replicate (ai t) (-1),[],[],0,0⟩).1=Z at h1 h2⊢
   have h3:Z.aR.length+0<=0+Z.next:=h1;have h4:Z.next<=0+ai t:=h2;omega
  obtain⟨pA,hpA⟩:∃q,V.pA=q:=⟨_,rfl⟩
  have c6:w3.cell? ⟨E.rp,6,none⟩=some (.slice pA np V.pc):=by
   have:=dD.blk.cell 6;rw[<- vO,<- hpA];exact this
  have qF:=dD.blk.lt;have hrow:=dD.ps.rowAt (cells:=iR) (l:=R.aR) rfl rfl (fun c _=>rfl) rfl;rw[hpA]at hrow;have za:=kH hrow;have HR3:=kH dD;have uf:=kH vO;clear hR vO hpA hrow dD hb3 Ea aV;go_wp2_with fail
  clear c6;go_loopg [6,20] np (fun gk s6 s20 wr=> ∃(i:Nat) (Aw:Option Addr) (cw:Nat),s20= .int .i64 (i:Int)/\s6= .slice Aw i cw/\i+gk=np/\Hid (aP wr w3.heap.size 78 5 (.slice Aw i cw) i ((R.aR.take i).flatMap fun p=>cO p.2))/\Hid (Below w3.heap.size w3 wr))
  case atStart=>exact⟨0,none,0,rfl,rfl,by omega,kH (aP.nil _ _ _ _),kH (Below.refl _ _)⟩
  case round=>
   obtain⟨i,Aw,cw,rfl,rfl,hi,HO,HB⟩:=hrel;by_cases hlt:i<np
   ·have hlt':(i:Int)<(np:Int):=by omega
    have hw:IntKind.i64.wrap ((i:Int)+1)=(i:Int)+1:=IntWalk.i64_in _ (by omega);obtain⟨p,hp⟩:∃p,R.aR[i]? =some p:=⟨_,aaf (by rw[uf.out];exact hlt)⟩
    obtain⟨b,off,hA,hbl0,hcs⟩:=(za.out.later HB.out) i p hp;subst hA;have hbl:b<wr.heap.size:=hbl0;have HPI:Hid ((R.aR.take (i+1)).flatMap (fun p=>cO p.2)=(R.aR.take i).flatMap (fun p=>cO p.2)++cO p.2):=kH (by rw[yl hp];simp);obtain⟨p1,p2,p3,p4,p5⟩:=p;have t0:wr.cell? ⟨b,off+i*6,none⟩=some (.int .i64 p1):=by simpa using hcs 0 _ rfl
    have t1:wr.cell? ⟨b,off+i*6+1,none⟩=some (.int .i64 p2):=by simpa using hcs 1 _ rfl
    have t2:wr.cell? ⟨b,off+i*6+2,none⟩=some (.int .i64 p3):=by simpa using hcs 2 _ rfl
    have t3:wr.cell? ⟨b,off+i*6+3,none⟩=some (.int .i64 p4):=by simpa using hcs 3 _ rfl
    have t4:wr.cell? ⟨b,off+i*6+4,none⟩=some (.string p5):=by simpa using hcs 4 _ rfl
    have t5:wr.cell? ⟨b,off+i*6+5,none⟩=some (.slice none 0 0):=by simpa using hcs 5 _ rfl
    clear hcs hp hbl0;go_wp2_with (at_builtin;go_must (refine dP _ rfl (.tmp 24) (.tmp 27) _ rfl w3.heap.size 78 i0 _ 5 64 Tryz.underlying31 hi0 hz0 hz1 hz2 rfl (.slice Aw i cw) i ((R.aR.take i).flatMap fun p=>cO p.2) rfl ((HO.out.alloc _).alloc _) ⟨wr.heap.size+1,0,none⟩ 1 1 (cO ⟨p2,p3,p4,p5⟩) rfl rfl (news_dg _ _ _ (by go_simp) (by go_simp) (by go_simp) (by go_simp) (by go_simp)) (by simp[cO,Value.oneCell']) (by simp only[maxLen];omega) (by omega) (by have:=HB.out.size;simp;omega) ?_);intro vn w6 hown hgrow hat;obtain⟨A6,c6,eG,-,-⟩:=hown.shape;subst eG;have HOWN:=kH hown;have pz:=kH hgrow;clear hown hgrow hat)
    have Bh:Hid (aP w6 w3.heap.size 78 5 (.slice A6 (i+1) c6) (i+1) ((R.aR.take (i+1)).flatMap fun p=>cO p.2)):=kH (by rw[HPI.out];exact HOWN.out);have yJ:Hid (Below w3.heap.size w3 w6):=kH ((HB.out.trans (((Below.refl _ wr).alloc (aab _) _ |>.alloc (by simp) _).mono HB.out.size)).trans (((aA.refl (fun g=>w3.heap.size<=g) _).grown pz.out (fun g hg=>.inl (HO.out.lt g hg).1)).toBelow (by have:=HB.out.size;simp;omega) (fun g hg=>hg)));clear HOWN pz;go_roundg (gk - 1)
    case measure=>omega
    case rel=>exact⟨i+1,A6,c6,by simp,rfl,by omega,Bh,yJ⟩
   ·have hin:i=np:=by omega
    subst hin;have hge:¬((i:Int)<(i:Int)):=by omega
    have hRr:=HR3.out.below HB.out;have Cb:=Zw.out.below HB.out Zw.out.lt;obtain⟨nd,hnd⟩:∃q,R.ds.length=q:=⟨_,rfl⟩
    obtain⟨nu,hnu⟩:∃q,R.uses.length=q:=⟨_,rfl⟩
    have c3:wr.cell? ⟨E.rp,3,none⟩=some (.slice V.dA nd V.dc):=by rw[<- hnd];exact hRr.blk.cell 3
    have c4:wr.cell? ⟨E.rp,4,none⟩=some (.slice E.uA nu E.uc):=by rw[<- hnu];exact hRr.blk.cell 4
    have lr:=hRr.blk.lt;have r0:=Cb.cell 0;have r1:=Cb.cell 1;have g0:=Cb.frozen 0;have g1:=Cb.frozen 1;have lb:=Cb.lt
    have hne:E.rp≠w.heap.size+1:=fun e=>by
     have h1:wr.heap[E.rp]? =some (Obj.cells _ _ (0,0)):=hRr.blk;have h2:wr.heap[w.heap.size+1]? =some (Obj.cells _ _ (0,0)):=Cb;rw[e,h2]at h1;simp at h1
    have hss:aA (fun g=>g=w.heap.size+1) wr ((wr.drew.setCell ⟨w.heap.size+1,0,none⟩ (.slice V.dA nd V.dc)).setCell ⟨w.heap.size+1,1,none⟩ (.slice E.uA nu E.uc)):=
     aA.setCell (S:=fun g=>g=w.heap.size+1) (aA.setCell (S:=fun g=>g=w.heap.size+1) ((aA.refl _ wr).drew) (p:=⟨w.heap.size+1,0,none⟩) (.inl rfl) _) (p:=⟨w.heap.size+1,1,none⟩) (.inl rfl) _
    have hRz:=hRr.farBlk Cb (by decide) (by decide) (by decide) (by decide) hss
    have hOz:aP ((wr.drew.setCell ⟨w.heap.size+1,0,none⟩ (.slice V.dA nd V.dc)).setCell ⟨w.heap.size+1,1,none⟩ (.slice E.uA nu E.uc)) w.heap.size 78 5 (.slice Aw i cw) i ((cK t).aR.flatMap fun p=>cO p.2):=by
     have:=(HO.out.mono HB3.out.size).since hss (fun q hq h1=>HO.out.fe Cb (by decide) (by rw[hq,h1]));rw[HRR.out];rw[List.take_of_length_le (by rw[uf.out];exact aab _)]at this;exact this
    have hBz:Below w.heap.size w ((wr.drew.setCell ⟨w.heap.size+1,0,none⟩ (.slice V.dA nd V.dc)).setCell ⟨w.heap.size+1,1,none⟩ (.slice E.uA nu E.uc)):=
     ((((HB3.out.trans (HB.out.mono HB3.out.size))).drew).setCell (p:=⟨w.heap.size+1,0,none⟩) (by show w.heap.size<=w.heap.size+1;omega) _).setCell (p:=⟨w.heap.size+1,1,none⟩) (by show w.heap.size<=w.heap.size+1;omega) _
    have hbz:=(Cb.drew.gY 0 (.slice V.dA nd V.dc)).gY 1 (.slice E.uA nu E.uc);have CK:Hid (ak ((wr.drew.setCell ⟨w.heap.size+1,0,none⟩ (.slice V.dA nd V.dc)).setCell ⟨w.heap.size+1,1,none⟩ (.slice E.uA nu E.uc)) (w.heap.size+1) 30 #[.slice V.dA nd V.dc,.slice E.uA nu E.uc]):=kH (by simpa using hbz)
    have bC:Hid (Xp t w (.returned (.tuple #[.agg #[.slice V.dA nd V.dc,.slice E.uA nu E.uc],.slice Aw i cw,.int .i64 0])) ((wr.drew.setCell ⟨w.heap.size+1,0,none⟩ (.slice V.dA nd V.dc)).setCell ⟨w.heap.size+1,1,none⟩ (.slice E.uA nu E.uc))):=kH (by
     refine .inr ⟨zk.out,E,V,Aw,i,cw,by rw[HRR.out,hnd,hnu],HEB.out.1,by rw[HRR.out];exact hRz,by rw[HRR.out,uf.out],hOz,hBz⟩)
    clear hRz hOz hBz hbz hss hnd hnu hRr Cb;go_wp2_with fail
    refine gN (fun w'=>w'.cell? ⟨E.rp,3,none⟩=some (.slice V.dA nd V.dc)/\w'.cell? ⟨E.rp,4,none⟩=some (.slice E.uA nu E.uc)) [] [true,true,true,true,true,true,true,true,true,true,false,false,false] (by kernel_rfl) (by kernel_rfl) rfl (by kernel_rfl) ?_;have hS0:wr.drew.cell? ⟨E.rp,3,none⟩=some (.slice V.dA nd V.dc)/\wr.drew.cell? ⟨E.rp,4,none⟩=some (.slice E.uA nu E.uc):=⟨c3,c4⟩
    iterate 10(refine jL rfl hS0 (by intro w' hSw;obtain⟨hs1,hs2⟩:=hSw;go_simp;rfl) ?_;simp only[Act.put,sA,sZ,sC])
    refine j4 (w':=(wr.drew.setCell ⟨w.heap.size+1,0,none⟩ (.slice V.dA nd V.dc)).setCell ⟨w.heap.size+1,1,none⟩ (.slice E.uA nu E.uc)) rfl (by go_simp) (fun _=>⟨by go_simp,by go_simp⟩) ?_;simp only[Act.put];iterate 2(refine kU (w':=(wr.drew.setCell ⟨w.heap.size+1,0,none⟩ (.slice V.dA nd V.dc)).setCell ⟨w.heap.size+1,1,none⟩ (.slice E.uA nu E.uc)) rfl (by go_simp;rfl) (fun _=>⟨by go_simp,by go_simp⟩) ?_;simp only[Act.put,sA,sZ,sC])
    refine kV ?_;clear hS0 r0 r1 g0 g1 c3 c4;generalize (wr.drew.setCell ⟨w.heap.size+1,0,none⟩ (.slice V.dA nd V.dc)).setCell ⟨w.heap.size+1,1,none⟩ (.slice E.uA nu E.uc)=WZ at bC CK⊢
    have r0:=CK.out.cell 0;have r1:=CK.out.cell 1;go_wp2_with fail
    try simp only[Exit.inBlock,Exit.then]
    refine bodyPost_ret (v:=.tuple #[.agg #[.slice V.dA nd V.dc,.slice E.uA nu E.uc],.slice Aw i cw,.int .i64 0]) (by simp[results,Tryz.results12,go_sem,r0,r1]) rfl ?_;exact bC.out
theorem Un{K:Type}[DecidableEq K](x:K×Value)(m:List (K×Value))(k:K):nP (x::m) k=if k=x.1 then some x.2 else nP m k:=by
 unfold nP;rw[mJ];by_cases h:k=x.1
 ·rw[if_pos h,if_pos h];rfl
 ·rw[if_neg h,if_neg h]
  have:=C9 k m 1 0;rw[Nat.add_zero]at this;rw[this];cases mJ k m 0<;>rfl
theorem fM.look{w:World}{base:Nat}{ub:Option Nat}(k:Int):∀{l:List (Int×List Int)}{vals:List (Int×Value)},fM w base ub l vals ->
 ∃v,(nP vals k).getD (.slice none 0 0)=v/\aP w base 3 1 v ((bG l k).getD []).length (jN ((bG l k).getD []))
 | [],vals,h=>by
  have:vals=[]:=h;subst this;exact⟨_,rfl,aP.nil _ _ _ _⟩
 | x::l,vals,⟨v,vs,h1,h2,h3,h4⟩=>by
  subst h1;rw[Un,bG];by_cases hk:k=x.1
  ·rw[if_pos hk,if_pos hk]
   exact⟨v,rfl,h2⟩
  ·rw[if_neg hk,if_neg hk]
   exact fM.look k h4
theorem Vu(w:World):(zeroValue 28).run Tryz.prog w= .ok (.slice none 0 0) w:=by go_simp
def nD(t:aa)(k:Int):List Int:=if j6 t then(bG (cK t).bH k).getD [] else []
theorem G9(t:aa)(A:Option Addr)(c:Nat)(num:Int)(w:World)(hN:ai t<=1000000)(hcap:t.kids.length<=c)(hk:aK w w.heap.size A 0 t.kids):
 Calls Tryz.prog 17 #[bB t A c,.int .i64 num] w fun e w'=> ∃v,e= .returned v/\aP w' w.heap.size 3 1 v (nD t num).length (jN (nD t num))/\Below w.heap.size w w':=by
 obtain⟨k0,x0,a0,z0,n0,-,-,-,-,-,ji⟩:=gD t A c;obtain⟨W1,hW1⟩:∃W1,w.alloc (.cells #[.int .i64 k0,.string x0,.int .i64 a0,.int .i64 z0,.slice A n0 c] 24)=W1:=⟨_,rfl⟩
 have hnb:ak W1 w.heap.size 24 #[.int .i64 k0,.string x0,.int .i64 a0,.int .i64 z0,.slice A n0 c]:=by rw[<- hW1];exact ak.new w _ _
 have hb1:Below w.heap.size w W1:=by rw[<- hW1];exact ae w _
 have hval:=M6 t A c W1 (by omega) (aK.mono hb1.size _ _ _ (aK.below hb1 (aab _) _ _ _ hk));rw[ji]at hval⊢;obtain⟨vb,hvb⟩:∃q,j6 t=q:=⟨_,rfl⟩
 obtain⟨Z,hZ⟩:∃Z,nD t num=Z:=⟨_,rfl⟩
 rw[hZ];unfold nD at hZ;rw[hvb]at hval hZ;have LC:=kH hval;have HZ:=kH hZ;have zk:=kH hvb;have lV:=kH hnb;have HB1:=kH hb1;have Bl:=kH ji;have HCAP:=kH hcap;have HK:=kH hk;have m0:=hnb.cell 0;have m1:=hnb.cell 1;have m2:=hnb.cell 2;have m3:=hnb.cell 3;have m4:=hnb.cell 4;have lm:=hnb.lt;clear hval hvb hnb hb1 ji hcap hk hZ;go_enter Tryz.func17,Tryz.ntmps17
 go_wp2_with fail
 clear hW1 m0 m1 m2 m3 m4 lm;refine LC.out.mono ?_;rintro e2 w2 ⟨rfl,hb2⟩;have HB2:Hid (Below w.heap.size w w2):=kH (HB1.out.trans (hb2.mono HB1.out.size));have vG:=kH (lV.out.below hb2 lV.out.lt);clear hb2
 cases vb with
 | false=>
  have hz:Z=[]:=by rw[<- HZ.out];rfl
  subst hz;go_wp2_with fail
  go_ret
  exact⟨_,rfl,aP.nil _ _ _ _,HB2.out⟩
 | true=>
  have hres:=Gs t A c w2 (LY zk.out) hN HCAP.out (aK.mono HB2.out.size _ _ _ (aK.below HB2.out (aab _) _ _ _ HK.out));rw[Bl.out]at hres;have aV:=kH hres;have m0:=vG.out.cell 0;have m1:=vG.out.cell 1;have m2:=vG.out.cell 2;have m3:=vG.out.cell 3;have m4:=vG.out.cell 4;have lm:=vG.out.lt;clear hres;go_wp2_with fail
  clear m0 m1 m2 m3 m4 lm;refine aV.out.mono ?_;rintro e3 w3 ⟨E,V,rfl,Ea,dD,hb3⟩;have hlk:=uU (P:=Tryz.prog) (KK:=iN) (t:=72) (kt:=3) (et:=28) Tryz.underlying72 Tryz.underlying3 Vu dD.vi num;obtain⟨v,hv,ho⟩:=fM.look num dD.bH;rw[hv]at hlk;change (Instr.lookup 72 (.map (some E.vi)) (.int .i64 num) false).run Tryz.prog w3=_ at hlk;have hz:(bG (cK t).bH num).getD []=Z:=by rw[<- HZ.out];rfl
  rw[hz]at ho;have c5:w3.cell? ⟨E.rp,5,none⟩=some (.map (some E.vi)):=dD.blk.cell 5;have lr:=dD.blk.lt;have HO:Hid (aP w3 w.heap.size 3 1 v Z.length (jN Z)):=kH (ho.mono (by rw[Ea];exact HB2.out.size));have HB3:Hid (Below w.heap.size w w3):=kH (HB2.out.trans (hb3.mono HB2.out.size));clear Ea dD hb3 hv ho hz aV;go_wp2_with fail
  go_ret
  exact⟨v,rfl,HO.out,HB3.out⟩
end Go.Proofs.YtoepemlnlpamlaaGreat
namespace Go.Proofs.YtoepemlnlpamlaaGreat
section
variable {P:Program}{ops:Array Oper}{Q:Exit->Act->World->Prop}{md:Region.Mode}{S T:World->Prop}{ex:List Nat}
def Es(P:Program)(md:Region.Mode)(ops:Array Oper)(Q:Exit->Act->World->Prop)(S T:World->Prop)(ex:List Nat):Nat->Array Bool->Act->World->Prop
 | 0,listed,a,w=>Region.ready md ops listed=[]/\Q .normal a w
 | fuel+1,listed,a,w=>
  (Region.ready md ops listed=[]->Q .normal a w) /\
  ∀i∈Region.ready md ops listed,wpOp P ops Q i (fun a' w'=>(T w'/\(i ∉ ex->S w'))/\Es P md ops Q S T ex fuel (listed.setIfInBounds i true) a' w') a w
theorem Jq:∀(fuel:Nat) (listed:Array Bool) (a:Act) (w:World),Es P md ops Q S T ex fuel listed a w->wpAny P md ops Q fuel listed a w
 | 0,_,_,_,h=>h
 | fuel+1,_,_,_,h=>⟨h.1,fun i hi=>wpOp_mono (fun a' w' h'=>Jq fuel _ a' w' h'.2) (h.2 i hi)⟩
theorem Er{U:World->Prop}{i:Nat}{oi:Oper}{v:Value}(hi:ops[i]? =some oi)(hsel:∀(j:Nat) (o:Oper) cs b,ops[j]? =some o->o.op ≠ .select cs b)
 (hTS:∀w,U w->T w/\(i ∉ ex->S w)) (hQ:∀c a w,Q (.panic c) (a.put oi.dst v) w->Q (.panic c) a w):
 ∀(fuel:Nat) (listed:Array Bool) (a:Act) (w:World),
  (∀j w,listed.getD j true=false->Region.waitsFor md ops j i=false->T w->(j ∉ ex->S w)->U w) ->
  (∀j oj,ops[j]? =some oj->j≠i->listed.getD j true=false->(∀e∈oj.after,Region.binds md e=true->e.on≠i)->oi.apart ops oj=true) ->
  i∈Region.ready md ops listed->YieldsIf P ops U oi v a->U w ->
  Es P md ops Q S T ex fuel (listed.setIfInBounds i true) (a.put oi.dst v) w->Es P md ops Q S T ex (fuel+1) listed a w:=by
 intro fuel
 induction fuel with
 | zero=>
  intro listed a w _ _ hr hy hU H;refine⟨fun h=>(by rw[h]at hr;cases hr),fun j hj=>?_⟩;by_cases hji:j=i
  ·subst hji;exact hy.wpOp hi hU ⟨hTS _ hU,H⟩
  ·have:=ready_mono hj hji
   rw[H.1]at this
   cases this
 | succ fuel ih=>
  intro listed a w hex hfree hr hy hU H;refine⟨fun h=>(by rw[h]at hr;cases hr),fun j hj=>?_⟩;by_cases hji:j=i
  ·subst hji;exact hy.wpOp hi hU ⟨hTS _ hU,H⟩
  ·have h1:=H.2 j (ready_mono hj hji)
   obtain⟨hjun,oj,hoj,hall⟩:=mem_ready.1 hj
   have hnot:∀e∈oj.after,Region.binds md e=true->e.on≠i:=fun e he hb heq=>by
    have h1:=hall e he hb;have h0:=(mem_ready.1 hr).1;rw[heq]at h1;rcases Nat.lt_or_ge i listed.size with h'|h'
    ·simp[h']at h0 h1;rw[h0]at h1;cases h1
    ·simp[Array.getElem?_eq_none h']at h1
   have hjw:Region.waitsFor md ops j i=false:=by
    cases hw:Region.waitsFor md ops j i with
    | false=>rfl
    | true=>
     obtain⟨oj',hj',e,he,hb,hon⟩:=Region.waitsFor_spec hw;rw[hoj]at hj';cases hj'
     exact absurd hon (hnot e he hb)
   have h2:=wpOp_putIf hoj (hfree j oj hoj hji hjun hnot) (fun cs b=>hsel i oi cs b hi) (fun cs b=>hsel j oj cs b hoj) hQ hy h1
   have hkeep:∀k,(listed.setIfInBounds j true).getD k true=false->listed.getD k true=false:=fun k hun=>by
    by_cases hjk:j=k
    ·subst hjk;exact hjun
    ·rw[getD_set_ne true hjk]at hun;exact hun
   refine wpOp_mono (fun a' w' h3=>⟨h3.2.1,?_⟩) h2;refine ih (listed.setIfInBounds j true) a' w' (fun k w1 hk=>hex k w1 (hkeep k hk)) (fun k ok hk hki hun hno=>hfree k ok hk hki (hkeep k hun) hno) (ready_mono hr (Ne.symm hji)) h3.1 (hex j w' hjun hjw h3.2.1.1 h3.2.1.2) ?_;rw[Array.setIfInBounds_comm _ _ hji];exact h3.2.2
def rU(P:Program)(ops:Array Oper)(Q:Exit->Act->World->Prop)(S T:World->Prop)(ex:List Nat):List (Nat×Nat)->Act->World->Prop
 | [],a,w=>Q .normal a w
 | (k,0)::ss,a,w=> ∃o,ops[k]? =some o/\∃v,YieldsIf P ops T o v a/\T w/\rU P ops Q S T ex ss (a.put o.dst v) w
 | (k,1)::ss,a,w=> ∃o,ops[k]? =some o/\∃v,YieldsIf P ops (fun w=>T w/\S w) o v a/\(T w/\S w)/\rU P ops Q S T ex ss (a.put o.dst v) w
 | (k,_)::ss,a,w=> ∃o,ops[k]? =some o/\Region.wanted o (yielded ops a.tmps)=true/\o.wp P a w (fun a' w'=>(T w'/\(ex.contains k=false->S w'))/\rU P ops Q S T ex ss a' w') Q
def zD(md:Region.Mode)(ops:Array Oper)(ex:List Nat):List (Nat×Nat)->Array Bool->Bool
 | [],listed=>(Region.ready md ops listed).isEmpty
 | (k,0)::ss,listed=>Region.free md ops listed k&&(Region.ready md ops listed).contains k&&ex.contains k&&zD md ops ex ss (listed.setIfInBounds k true)
 | (k,1)::ss,listed=>Region.free md ops listed k&&(Region.ready md ops listed).contains k&&ex.all (fun j=>listed.getD j true || Region.waitsFor md ops j k)&&zD md ops ex ss (listed.setIfInBounds k true)
 | (k,_)::ss,listed=>(Region.ready md ops listed==[k])&&zD md ops ex ss (listed.setIfInBounds k true)
theorem NN(hs:Region.noSelect ops=true)(hQ:∀c a b w,Q (.panic c) a w->Q (.panic c) b w):∀(ss:List (Nat×Nat)) (listed:Array Bool) (a:Act) (w:World),
 zD md ops ex ss listed=true->rU P ops Q S T ex ss a w->Es P md ops Q S T ex ss.length listed a w:=by
 intro ss
 induction ss with
 | nil=>
  intro listed a w hB h;exact⟨by simpa [zD] using hB,by simpa [rU] using h⟩
 | cons s ss ih=>
  intro listed a w hB h;obtain⟨k,s⟩:=s
  match s with
  | 0=>
   simp only[zD,aad]at hB;obtain⟨⟨⟨h1,h2⟩,h3⟩,h4⟩:=hB;obtain⟨o,hok,v,hy,hS,h5⟩:=h;exact Er (U:=T) hok (Region.noSelect_spec hs) (fun w hw=>⟨hw,fun hn=>absurd (by simpa using h3) hn⟩) (fun c a w hq=>hQ c _ _ w hq) ss.length listed a w (fun _ _ _ _ ht _=>ht) (Region.free_spec hok h1) (by simpa using h2) hy hS (ih _ _ w h4 h5)
  | 1=>
   simp only[zD,aad]at hB;obtain⟨⟨⟨h1,h2⟩,h3⟩,h4⟩:=hB;obtain⟨o,hok,v,hy,hS,h5⟩:=h;refine Er (U:=fun w=>T w/\S w) hok (Region.noSelect_spec hs) (fun w hw=>⟨hw.1,fun _=>hw.2⟩) (fun c a w hq=>hQ c _ _ w hq) ss.length listed a w (fun j w hj hw ht hn=>⟨ht,hn (fun hm=>?_)⟩) (Region.free_spec hok h1) (by simpa using h2) hy hS (ih _ _ w h4 h5);have:=List.all_eq_true.1 h3 j hm;rw[hj,hw]at this
   cases this
  | n+2=>
   simp only[zD,aad,beq_iff_eq]at hB;obtain⟨h1,h2⟩:=hB;obtain⟨o,hok,hg,h5⟩:=h;refine⟨fun h0=>(by rw[h0]at h1;cases h1),fun i hi=>?_⟩;rw[h1]at hi;simp at hi;subst hi;unfold wpOp;simp only[hok,hg,if_true];refine .inl (Oper.wp_mono (fun a' w' h6=>⟨⟨h6.1.1,fun hn=>h6.1.2 (by simpa using hn)⟩,ih (listed.setIfInBounds i true) a' w' h2 h6.2⟩) h5)
theorem Ep{id:Nat}{a:Act}{w:World}{l:List Oper}(S T:World->Prop)(ex:List Nat)(ss:List (Nat×Nat))(hm:P.follows .mixedOrders=true)(hs:Region.noSelect l.toArray=true)
 (hl:ss.length=l.length) (hB:zD .any l.toArray ex ss (Array.replicate l.length false)=true) (h:rU P l.toArray (NoPanic Q) S T ex ss a w.drew):(Code.region id l.toArray true).wp P Q a w:=by
 refine wp_region_noPanic (wp_region_any hm (Jq (S:=S) (T:=T) (ex:=ex) _ _ _ _ ?_));have:=NN (P:=P) (S:=S) (T:=T) (md:=.any) hs (Q:=NoPanic Q) (fun c a b w hq=>(hq:False).elim) ss (Array.replicate l.length false) a w.drew hB h;simpa [hl] using this
theorem NI{a:Act}{w:World}(h:Q .normal a w):rU P ops (NoPanic Q) S T ex [] a w:=h
theorem Ti{k:Nat}{ss:List (Nat×Nat)}{o:Oper}{a:Act}{w:World}{v:Value}(ho:ops[k]? =some o)(hg:Region.wanted o (yielded ops a.tmps)=true)(hS:T w)(hy:∀w',T w'->(execOp a.eval o).run P w'= .ok (.value v) w')
 (h:rU P ops Q S T ex ss (a.put o.dst v) w):rU P ops Q S T ex ((k,0)::ss) a w:=
 ⟨o,ho,v,.inl ⟨hg,hy⟩,hS,h⟩
theorem vX{k:Nat}{ss:List (Nat×Nat)}{o:Oper}{a:Act}{w:World}{v:Value}(ho:ops[k]? =some o)(hg:Region.wanted o (yielded ops a.tmps)=true)(hS:T w/\S w)(hy:∀w',(T w'/\S w')->(execOp a.eval o).run P w'= .ok (.value v) w')
 (h:rU P ops Q S T ex ss (a.put o.dst v) w):rU P ops Q S T ex ((k,1)::ss) a w:=
 ⟨o,ho,v,.inl ⟨hg,hy⟩,hS,h⟩
theorem LQ{k:Nat}{ss:List (Nat×Nat)}{o:Oper}{a:Act}{w w':World}(ho:ops[k]? =some o)(hg:Region.wanted o (yielded ops a.tmps)=true)(hr:(execOp a.eval o).run P w= .ok .skip w')(hT:T w')(hS:ex.contains k=false->S w')
 (h:rU P ops Q S T ex ss (a.put o.dst undef) w'):rU P ops Q S T ex ((k,2)::ss) a w:=
 ⟨o,ho,hg,by unfold Oper.wp;rw[hr];exact⟨⟨hT,hS⟩,h⟩⟩
theorem Hw{k:Nat}{ss:List (Nat×Nat)}{o:Oper}{a:Act}{w w':World}{v:Value}(ho:ops[k]? =some o)(hg:Region.wanted o (yielded ops a.tmps)=true)(hr:(execOp a.eval o).run P w= .ok (.value v) w')(hT:T w')(hS:ex.contains k=false->S w')
 (h:rU P ops Q S T ex ss (a.put o.dst v) w'):rU P ops Q S T ex ((k,2)::ss) a w:=
 ⟨o,ho,hg,by unfold Oper.wp;rw[hr];exact⟨⟨hT,hS⟩,h⟩⟩
theorem XQ{k:Nat}{ss:List (Nat×Nat)}{o:Oper}{a:Act}{w:World}(ho:ops[k]? =some o)(hg:Region.wanted o (yielded ops a.tmps)=true)
 (h:o.wp P a w (fun a' w'=>(T w'/\(ex.contains k=false->S w'))/\rU P ops Q S T ex ss a' w') Q):rU P ops Q S T ex ((k,2)::ss) a w:=⟨o,ho,hg,h⟩
end
end Go.Proofs.YtoepemlnlpamlaaGreat
