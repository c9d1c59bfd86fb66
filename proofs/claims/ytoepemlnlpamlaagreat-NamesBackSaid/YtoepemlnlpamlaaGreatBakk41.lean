/- The law NamesBack holds for every text and every number: it returns true, and its arguments read as before. No condition. Part 41: BkM ShlC BkT. -/
import Derived.Shelf.Strings.Search3
import Derived.Test.YtoepemlnlpamlaaGreatProg
import Derived.Test.YtoepemlnlpamlaaGreatBakk36
import Derived.Test.YtoepemlnlpamlaaGreatBakk40
set_option maxRecDepth 100000
set_option maxHeartbeats 4000000
namespace Go.Proofs.YtoepemlnlpamlaaGreat
open Go.RowKit
theorem bL.Ua{w:World}{lo:Nat}{A:Option Addr}{c:Nat}{t:aa}(h:bL w lo (.slice A t.kids.length c) t.kids.length t.kids):aD w w.heap.size A 0 t.kids/\t.kids.length<=c:=by
 have hat:=aB.at_ t _ h.tree;obtain⟨A',c',h1,hk⟩:=hat.five;simp only[List.cons.injEq,Value.slice.injEq,true_and,and_true]at h1;obtain⟨rfl,rfl⟩:=h1;exact⟨hk,hat.cap⟩
theorem G7(t:aa)(A:Option Addr)(c:Nat)(w:World)(hN:ah t<=1000000)(hcap:t.kids.length<=c)(hk:aD w w.heap.size A 0 t.kids):
 Calls Tryz.prog 12 #[aX t A c] w fun e w'=> ∃(dA:Option Addr) (nd dc:Nat) (uA:Option Addr) (nu uc:Nat) (Aw:Option Addr) (nw cw:Nat) (er:Int),e= .returned (.tuple #[.agg #[.slice dA nd dc,.slice uA nu uc],.slice Aw nw cw,.int .i64 er])/\((er=0->iJ t=true/\nd=(aR t).ds.length/\nw=(aR t).aO.length/\nu=(aR t).uses.length/\aL w' w.heap.size 49 4 (.slice dA nd dc) nd ((aR t).ds.flatMap kz)/\aL w' w.heap.size 3 1 (.slice uA nu uc) nu (iE (aR t).uses))/\(iJ t=true->er=0))/\Below w.heap.size w w':=by
 refine(G8 t A c w hN hcap hk).mono fun e w' h=>?_
 rcases h with⟨hv,rfl,hb⟩| ⟨hv,E,V,An,nw,cw,rfl,hE,hR,hnw,-,hb⟩
 ·exact⟨none,0,0,none,0,0,none,0,0,1,rfl,⟨fun h=>(by simp at h),fun h=>(by rw[hv]at h;cases h)⟩,hb⟩
 ·exact⟨V.dA,_,V.dc,E.uA,_,E.uc,An,nw,cw,0,rfl,⟨fun _=>⟨hv,rfl,hnw,rfl,hR.ds.mono hE,hR.us.mono hE⟩,fun _=>rfl⟩,hb⟩
def QX(T:aa)(w:World)(e:Ending)(w':World):Prop:=∃A' c',e= .returned (.tuple #[aX T A' c',.int .i64 0])/\bL w' w.heap.size (.slice A' T.kids.length c') T.kids.length T.kids/\Below w.heap.size w w'
theorem Dm(t:aa)(A:Option Addr)(c:Nat)(w:World)(ds:List Dc)(us:List Int)(nd nu:Nat)(hN:ah t<=1000000)(hcap:t.kids.length<=c)(hk:aD w w.heap.size A 0 t.kids)(hv:iJ t=true)(hp:(aR t).aO=[])(hd:(aR t).ds=ds)(hu:(aR t).uses=us)(hnd:ds.length=nd)(hnu:us.length=nu):
 Calls Tryz.prog 12 #[aX t A c] w fun e w'=> ∃(dA:Option Addr) (dc:Nat) (uA:Option Addr) (uc:Nat) (Aw:Option Addr) (cw:Nat),e= .returned (.tuple #[.agg #[.slice dA nd dc,.slice uA nu uc],.slice Aw 0 cw,.int .i64 0])/\aL w' w.heap.size 49 4 (.slice dA nd dc) nd (ds.flatMap kz)/\aL w' w.heap.size 3 1 (.slice uA nu uc) nu (iE us)/\Below w.heap.size w w':=by
 refine(G7 t A c w hN hcap hk).mono fun e w' h=>?_
 obtain⟨dA,nd',dc,uA,nu',uc,Aw,nw,cw,er,rfl,⟨h1,h2⟩,hb⟩:=h;have her:=h2 hv;subst her;obtain⟨-,rfl,rfl,rfl,h3,h4⟩:=h1 rfl;rw[hp]at*;rw[hd]at h3⊢;rw[hu]at h4⊢;rw[hnd]at h3⊢;rw[hnu]at h4⊢;exact⟨dA,dc,uA,uc,Aw,cw,rfl,h3,h4,hb⟩
theorem KZ(t:aa)(A:Option Addr)(c:Nat)(j:Nat)(nm:ByteArray)(ds ds':List Dc)(us:List Int)(w:World)(hN:ah t<=1000000)(hcap:t.kids.length<=c)(hk:aD w w.heap.size A 0 t.kids)
 (hv:iJ t=true) (hp:(aR t).aO=[]) (hd:(aR t).ds=ds) (hu:(aR t).uses=us) (hj:j<ds.length) (hl:us.length<=1000000) (hnm:cZ nm=true)
 (hv':iJ (dU nm (si (rZ (j:Int) us us.length)) t 0)=true) (hp':(aR (dU nm (si (rZ (j:Int) us us.length)) t 0)).aO=[]) (hd':(aR (dU nm (si (rZ (j:Int) us us.length)) t 0)).ds=ds') (hu':(aR (dU nm (si (rZ (j:Int) us us.length)) t 0)).uses=us):
 Calls Tryz.prog 28 #[aX t A c,.int .i64 (j:Int),.string nm] w (QX (dU nm (si (rZ (j:Int) us us.length)) t 0) w):=by
 obtain⟨nu,hnu⟩:∃q,us.length=q:=⟨_,rfl⟩
 obtain⟨nd,hnd⟩:∃q,ds.length=q:=⟨_,rfl⟩
 obtain⟨nd',hnd'⟩:∃q,ds'.length=q:=⟨_,rfl⟩
 rw[hnu]at hv' hp' hd' hu' hl⊢;rw[hnd]at hj;obtain⟨UL,hUL⟩:∃q,rZ (j:Int) us nu=q:=⟨_,rfl⟩
 rw[hUL]at hv' hp' hd' hu'⊢;obtain⟨T,hT⟩:∃q,dU nm (si UL) t 0=q:=⟨_,rfl⟩
 rw[hT]at hv' hp' hd' hu'⊢;have hTN:ah T<=1000000:=by rw[<- hT,ql];exact hN
 obtain⟨k0,x0,a0,z0,n0,-,-,-,-,-,mP⟩:=gM t A c;obtain⟨k9,x9,a9,z9,n9,rC,yl,Xz,Pv,ER,-⟩:=gM T A c;have PT:∀A c,aX T A c= .agg #[.int .i64 k9,.string x9,.int .i64 a9,.int .i64 z9,.slice A n9 c]:=fun A c=>by unfold aX;rw[rC,yl,Xz,Pv,ER]
 have aM:=kH fun W (hb:Below w.heap.size w W)=>Dm t A c W ds us nd nu hN hcap (aD.mono hb.size _ _ _ (aD.below hb (aaD _) _ _ _ hk)) hv hp hd hu hnd hnu
 have HRES2:=kH fun W A' c' (hc:T.kids.length<=c') (hk':aD W W.heap.size A' 0 T.kids)=>Dm T A' c' W ds' us nd' nu hTN hc hk' hv' hp' hd' hu' hnd' hnu
 have hnmb:xU nm.data.toList=true:=hnm;have vO:=kH hnmb;have HK:=kH hk;have HN:=kH hN;have wV:=kH hnu;have Tw:=kH hUL;have HTT:=kH hT;have Q9:=kH PT;have hj0:¬((j:Int)<0):=by omega
 have hj1:(j:Int)<(nd:Int):=by omega
 have hj2:¬((nd:Int)<=(j:Int)):=by omega
 rw[mP]at aM⊢;have D9:=kH mP;clear hk hN hcap hv hp hd hu hnm hv' hp' hd' hu' hnu hnd hnd' hUL hT hTN mP rC yl Xz Pv ER PT hnmb;go_enter Tryz.func28,Tryz.ntmps28
 obtain⟨W2,hW2⟩:∃W,(w.alloc (.cells #[.int .i64 k0,.string x0,.int .i64 a0,.int .i64 z0,.slice A n0 c] 24)).alloc (.cells #[.int .i64 0,.string ⟨#[]⟩,.int .i64 0,.int .i64 0,.slice none 0 0] 24)=W:=⟨_,rfl⟩
 have hb2:Below w.heap.size w W2:=by rw[<- hW2];exact((Below.refl _ w).alloc (aaD _) _).alloc (by simp) _
 have gX:ai W2 w.heap.size 24 #[.int .i64 k0,.string x0,.int .i64 a0,.int .i64 z0,.slice A n0 c]:=by rw[<- hW2];exact(ai.new w _ _).alloc _
 have hZ2:ai W2 (w.heap.size+1) 24 #[.int .i64 0,.string ⟨#[]⟩,.int .i64 0,.int .i64 0,.slice none 0 0]:=by
  rw[<- hW2];have:=ai.new (w.alloc (.cells #[.int .i64 k0,.string x0,.int .i64 a0,.int .i64 z0,.slice A n0 c] 24)) 24 #[.int .i64 0,.string ⟨#[]⟩,.int .i64 0,.int .i64 0,.slice none 0 0];simpa using this
 obtain⟨⟨t0,t1,t2,t3,t4⟩,-⟩:=gX.five;have lt:=gX.lt;have HB2:=kH hb2;have HT2:=kH gX;have HZ2:=kH hZ2;clear hb2 gX hZ2;go_wp2_with (rw[hW2])
 clear hW2;refine(aM.out W2 HB2.out).mono ?_;rintro e w3 ⟨dA,dc,uA,uc,Aw,cw,rfl,XI,QB,hb3⟩;obtain⟨rb,hrb⟩:∃q,w3.heap.size=q:=⟨_,rfl⟩
 obtain⟨W4,lV⟩:∃W,w3.alloc (.cells #[.slice dA nd dc,.slice uA nu uc] 30)=W:=⟨_,rfl⟩
 have hb4:Below w3.heap.size w3 W4:=by rw[<- lV];exact af _ _
 have dS:ai W4 rb 30 #[.slice dA nd dc,.slice uA nu uc]:=by rw[<- lV,<- hrb];exact ai.new _ _ _
 have VC:Below W2.heap.size W2 W4:=hb3.trans (hb4.mono hb3.size);have Ha:=kH (QB.below hb4 (fun g hg=>(QB.lt g hg).2));have D7:=kH (HT2.out.below VC HT2.out.lt);have HZ4:=kH (HZ2.out.below VC HZ2.out.lt);have HR4:=kH dS;have p9:Hid (Below w.heap.size w W4):=kH (HB2.out.trans (VC.mono HB2.out.size));have dI:Hid (W2.heap.size<=rb):=kH (by rw[<- hrb];exact hb3.size);have r0:=dS.cell 0;have r1:=dS.cell 1;have lr:=dS.lt;clear XI QB hb3 hb4 dS VC t0 t1 t2 t3 t4 lt;go_wp2_with (first|rw[lV]|rw[hrb])
 clear lV hrb;refine(MR nm W4).mono ?_;rintro e w5 ⟨rfl,hb5⟩;rw[vO.out];clear r0 r1 lr;obtain⟨nb,hnb⟩:∃q,w5.heap.size=q:=⟨_,rfl⟩
 obtain⟨X8,Ce⟩:∃W,w5.alloc (.cells #[.int .i64 0] 3)=W:=⟨_,rfl⟩
 have dK:Below w5.heap.size w5 X8:=by rw[<- Ce];exact af _ _
 have Kz:ai X8 nb 3 #[.int .i64 0]:=by rw[<- Ce,<- hnb];exact ai.new _ _ _
 have hb48:Below W4.heap.size W4 X8:=hb5.trans (dK.mono hb5.size);have pW:=D7.out.below hb48 D7.out.lt;have dW:=HR4.out.below hb48 HR4.out.lt;have Qr:=HZ4.out.below hb48 HZ4.out.lt;have hO8:=Ha.out.below hb48 (fun g hg=>(Ha.out.lt g hg).2);have hbw:Below w.heap.size w X8:=p9.out.trans (hb48.mono p9.out.size);have hnb4:W4.heap.size<=nb:=by rw[<- hnb];exact hb5.size
 have nH:∀W,az (fun q=>q=nb) X8 W->W.cell? ⟨w.heap.size,0,none⟩=some (.int .i64 k0)/\W.cell? ⟨w.heap.size,1,none⟩=some (.string x0)/\W.cell? ⟨w.heap.size,2,none⟩=some (.int .i64 a0)/\W.cell? ⟨w.heap.size,3,none⟩=some (.int .i64 z0)/\W.cell? ⟨w.heap.size,4,none⟩=some (.slice A n0 c)/\W.cell? ⟨rb,0,none⟩=some (.slice dA nd dc)/\W.cell? ⟨rb,1,none⟩=some (.slice uA nu uc):=fun W hW=>by
  have h1:=pW.since hW (by have:=D7.out.lt;omega);have h2:=dW.since hW (by have:=HR4.out.lt;omega);exact⟨h1.cell 0,h1.cell 1,h1.cell 2,h1.cell 3,h1.cell 4,h2.cell 0,h2.cell 1⟩
 have hUSE:∀W,Below X8.heap.size X8 W->Calls Tryz.prog 30 #[.agg #[.slice dA nd dc,.slice uA nu uc],.int .i64 (j:Int)] W _:=fun W hb=>Jj dA nd dc uA nu uc us (j:Int) W ((hO8.below hb (fun g hg=>(hO8.lt g hg).2)).rowAt (cells:=dM) (l:=us) rfl (qH _) (fun _ _=>rfl) wV.out) wV.out hl (by omega) hj1
 have ZR:∀(W:World) (UA:Option Addr) (un Em:Nat),Below X8.heap.size X8 W->aL W X8.heap.size 3 1 (.slice UA un Em) un (iE UL)->UL.length=un->Calls Tryz.prog 54 #[aX t A c,.slice UA un Em,.string nm,.pointer (some ⟨nb,0,none⟩)] W (RnL nm UL nb t 0 W):=fun W UA un Em hb hO AO=>by
  have hbW:Below w.heap.size w W:=hbw.trans (hb.mono hbw.size);refine Gq w.heap.size nb (by have:=p9.out.size;omega) nm UL UA un Em AO (by rw[<- AO,<- Tw.out];exact aaE (LF _ _ _) hl) (ah t) t (aaD _) 0 A c W (aD.below hbW (aaD _) _ _ _ HK.out) hbW.size (fun W' hW'=>?_) (Kz.below hb Kz.lt) (by have:=HN.out;omega);exact(hO.since hW' (fun g hg e=>by have:=(hO.lt g hg).1;have:=Kz.lt;omega)).rowAt (cells:=dM) (l:=UL) rfl (qH _) (fun _ _=>rfl) AO
 rw[D9.out]at ZR
 have L9:∀(Y:World) (g:Nat) (A9:Option Addr) (c9:Nat),X8.heap.size<=g->ai Y g 24 #[.int .i64 0,.string ⟨#[]⟩,.int .i64 0,.int .i64 0,.slice none 0 0]->az (fun q=>q=nb) X8 Y->bL (bZ Y g (.int .i64 k9) (.string x9) (.int .i64 a9) (.int .i64 z9) (.slice A9 n9 c9)) X8.heap.size (.slice A9 T.kids.length c9) T.kids.length T.kids ->
  X8.heap.size<=g/\ai (bZ Y g (.int .i64 k9) (.string x9) (.int .i64 a9) (.int .i64 z9) (.slice A9 n9 c9)) g 24 #[.int .i64 k9,.string x9,.int .i64 a9,.int .i64 z9,.slice A9 n9 c9]/\bL (bZ Y g (.int .i64 k9) (.string x9) (.int .i64 a9) (.int .i64 z9) (.slice A9 n9 c9)) X8.heap.size (.slice A9 T.kids.length c9) T.kids.length T.kids/\az (fun q=>q=nb) X8 (bZ Y g (.int .i64 k9) (.string x9) (.int .i64 a9) (.int .i64 z9) (.slice A9 n9 c9)):=
  fun Y g A9 c9 hg hB hs hk=>⟨hg,ai.BZ hB _ _ _ _ _,hk,hs.step qj (fun q hq=>.inr (by omega))⟩
 have hX8':=kH Ce;have hnb':=kH hnb;clear Ce hnb;have eY:=kH nH;have HUSE:=kH hUSE;have aal:=kH ZR;have iP:=kH L9;have HT8:=kH pW;have Bb:=kH dW;have HZ8:=kH Qr;have HO8:=kH hO8;have tY:=kH hbw;have kU:Hid (nb<X8.heap.size/\W4.heap.size<=nb):=kH ⟨Kz.lt,hnb4⟩;have hd1:az (fun q=>q=nb) X8 X8.drew:=(az.refl _ _).drew;have hS0:=eY.out _ hd1;clear hb5 dK Kz hb48 pW dW Qr hO8 hbw hnb4 nH hUSE ZR L9;go_upto_region 9 with fail
 rw[hX8'.out,hnb'.out];clear hX8' hnb';go_cut [12] (fun s12 wx=> ∃(g:Nat) (A9:Option Addr) (c9:Nat),s12= .pointer (some ⟨g,0,none⟩)/\Hid (X8.heap.size<=g/\ai wx g 24 #[.int .i64 k9,.string x9,.int .i64 a9,.int .i64 z9,.slice A9 n9 c9]/\bL wx X8.heap.size (.slice A9 T.kids.length c9) T.kids.length T.kids/\az (fun q=>q=nb) X8 wx))
 case first=>
  refine zz (fun W=>W.cell? ⟨w.heap.size,0,none⟩=some (.int .i64 k0)/\W.cell? ⟨w.heap.size,1,none⟩=some (.string x0)/\W.cell? ⟨w.heap.size,2,none⟩=some (.int .i64 a0)/\W.cell? ⟨w.heap.size,3,none⟩=some (.int .i64 z0)/\W.cell? ⟨w.heap.size,4,none⟩=some (.slice A n0 c)/\W.cell? ⟨rb,0,none⟩=some (.slice dA nd dc)/\W.cell? ⟨rb,1,none⟩=some (.slice uA nu uc)) [7] (.soft 0 (.soft 1 (.soft 2 (.soft 4 (.fork 3 (.fork 5 (.hard 6 (.hard 7 .done)) 6 (.hard 5 (.hard 7 .done))) 6 (.hard 3 (.hard 5 (.hard 7 .done)))))))) (by kernel_rfl) (by kernel_rfl) rfl (by kernel_rfl) ?_
  iterate 4
   refine qh (by simp only[aaM,aaL,aaK];rfl) (by rfl) hS0 (by intro w' hSw;obtain⟨hs1,hs2,hs3,hs4,hs5,hs6,hs7⟩:=hSw;go_simp;rfl) ?_;simp only[Act.put,sA,sZ,sC]
  have EU:Below X8.heap.size X8 X8.drew:=(Below.refl _ _).drew;refine Ef ?_ ?_
  ·refine ma (by simp only[aaM,aaL,aaK];rfl) (by rfl) (by go_simp) ((HUSE.out _ EU).mono ?_)
   rintro e1 w1 ⟨UA,un,Em,rfl,AO,QC,hb1⟩;rw[Tw.out]at AO QC;have EZ:Below X8.heap.size X8 w1:=EU.trans (hb1.mono EU.size);have Vo:az (fun q=>q=nb) X8 w1:=(az.refl _ _).below EZ;have hS1:=eY.out _ Vo;have hz1:=EZ.size;refine⟨_,rfl,fun _=>hS1,?_⟩;simp only[Act.put,sA,sZ,sC];refine Ef ?_ ?_
   ·refine ma (by simp only[aaM,aaL,aaK];rfl) (by rfl) (by go_simp) ((aal.out w1 UA un Em EZ (QC.mono (aaD _)) AO).mono ?_)
    rintro e2 w2 ⟨A9,c9,rfl,hK,-,hs2⟩;rw[HTT.out]at hK⊢;rw[Q9.out];have Zi:az (fun q=>q=nb) X8 w2:=Vo.trans hs2;have hS2:=eY.out _ Zi;refine⟨_,rfl,fun _=>hS2,?_⟩;simp only[Act.put,sA,sZ,sC];obtain⟨g,hg⟩:∃q,w2.heap.size=q:=⟨_,rfl⟩
    obtain⟨Y,hY⟩:∃q,w2.alloc (.cells #[.int .i64 0,.string ⟨#[]⟩,.int .i64 0,.int .i64 0,.slice none 0 0] 24)=q:=⟨_,rfl⟩
    have tC:Below w2.heap.size w2 Y:=by rw[<- hY];exact af _ _
    have wO:ai Y g 24 #[.int .i64 0,.string ⟨#[]⟩,.int .i64 0,.int .i64 0,.slice none 0 0]:=by rw[<- hY,<- hg];exact ai.new _ _ _
    have M0:az (fun q=>q=nb) X8 Y:=Zi.below tC;refine jK (yw (v:=.pointer (some ⟨g,0,none⟩)) (w':=Y) (by simp only[aaM,aaL,aaK];rfl) (by rfl) (by first|(go_simp;done)|(go_simp;rw[hY,hg])|(go_simp;rw[hg];rfl)) (fun _=>eY.out _ M0) ?_);simp only[Act.put,sA,sZ,sC];have uN:=wO;have hgl:X8.heap.size<=g:=by rw[<- hg];exact Zi.size
    have DF:=M0;obtain⟨⟨m0,m1,m2,m3,m4⟩,f0,f1,f2,f3,f4⟩:=uN.five;have lm:=uN.lt;refine jK (wI (w':=bZ Y g (.int .i64 k9) (.string x9) (.int .i64 a9) (.int .i64 z9) (.slice A9 n9 c9)) (by simp only[aaM,aaL,aaK];rfl) (by rfl) (by go_simp;rfl) (by simp) ?_);simp only[Act.put];refine xx ?_;have HQ:=kH (iP.out Y g A9 c9 hgl uN DF ((hK.low hz1).keeps (bO.of_below (tC.trans (qj.toBelow tC.size (fun q hq=>by omega))))));clear m0 m1 m2 m3 m4 f0 f1 f2 f3 f4 lm hS0 hS1;generalize bZ Y g (.int .i64 k9) (.string x9) (.int .i64 a9) (.int .i64 z9) (.slice A9 n9 c9)=ZZ at HQ⊢
    go_wp2_with fail
    go_meet
    exact⟨g,A9,c9,rfl,HQ⟩
   ·obtain⟨g,hg⟩:∃q,w1.heap.size=q:=⟨_,rfl⟩
    obtain⟨Y,hY⟩:∃q,w1.alloc (.cells #[.int .i64 0,.string ⟨#[]⟩,.int .i64 0,.int .i64 0,.slice none 0 0] 24)=q:=⟨_,rfl⟩
    have tC:Below w1.heap.size w1 Y:=by rw[<- hY];exact af _ _
    have wO:ai Y g 24 #[.int .i64 0,.string ⟨#[]⟩,.int .i64 0,.int .i64 0,.slice none 0 0]:=by rw[<- hY,<- hg];exact ai.new _ _ _
    have M0:az (fun q=>q=nb) X8 Y:=Vo.below tC;have hgl:X8.heap.size<=g:=by rw[<- hg];exact Vo.size
    have I4:Below X8.heap.size X8 Y:=EZ.trans (tC.mono EZ.size);have hOY:=QC.below tC (fun q hq=>(QC.lt q hq).2);have hsR:=M0;have XM:=wO;refine(yw (v:=.pointer (some ⟨g,0,none⟩)) (w':=Y) (by simp only[aaM,aaL,aaK];rfl) (by rfl) (by first|(go_simp;done)|(go_simp;rw[hY,hg])|(go_simp;rw[hg];rfl)) (fun _=>eY.out _ M0) ?_);simp only[Act.put,sA,sZ,sC];refine jK (ma (by simp only[aaM,aaL,aaK];rfl) (by rfl) (by go_simp) ((aal.out Y UA un Em I4 (hOY.mono (aaD _)) AO).mono ?_));rintro e2 w2 ⟨A9,c9,rfl,hK,-,hs2⟩;rw[HTT.out]at hK⊢;rw[Q9.out];have DF:az (fun q=>q=nb) X8 w2:=hsR.trans hs2;have hS2:=eY.out _ DF;refine⟨_,rfl,fun _=>hS2,?_⟩;simp only[Act.put,sA,sZ,sC];have uN:=XM.since hs2 (by have:=kU.out;omega);obtain⟨⟨m0,m1,m2,m3,m4⟩,f0,f1,f2,f3,f4⟩:=uN.five;have lm:=uN.lt;have hKZ:=hK.keeps (w':=bZ w2 g (.int .i64 k9) (.string x9) (.int .i64 a9) (.int .i64 z9) (.slice A9 n9 c9)) (fun q cs hP hc=>qj.block q (aaG.1 hc).1 (fun e=>by have hp:_<=q:=hP;have:=XM.lt;omega));have hkz:=hKZ.low (lo':=X8.heap.size) I4.size;refine jK (wI (w':=bZ w2 g (.int .i64 k9) (.string x9) (.int .i64 a9) (.int .i64 z9) (.slice A9 n9 c9)) (by simp only[aaM,aaL,aaK];rfl) (by rfl) (by go_simp;rfl) (by simp) ?_);simp only[Act.put];refine xx ?_;have HQ:=kH (iP.out w2 g A9 c9 hgl uN DF hkz);clear m0 m1 m2 m3 m4 f0 f1 f2 f3 f4 lm hS0 hS1 hS2;generalize bZ w2 g (.int .i64 k9) (.string x9) (.int .i64 a9) (.int .i64 z9) (.slice A9 n9 c9)=ZZ at HQ⊢
    go_wp2_with fail
    go_meet
    exact⟨g,A9,c9,rfl,HQ⟩
  ·obtain⟨g,hg⟩:∃q,X8.drew.heap.size=q:=⟨_,rfl⟩
   obtain⟨Y,hY⟩:∃q,X8.drew.alloc (.cells #[.int .i64 0,.string ⟨#[]⟩,.int .i64 0,.int .i64 0,.slice none 0 0] 24)=q:=⟨_,rfl⟩
   have tC:Below X8.drew.heap.size X8.drew Y:=by rw[<- hY];exact af _ _
   have wO:ai Y g 24 #[.int .i64 0,.string ⟨#[]⟩,.int .i64 0,.int .i64 0,.slice none 0 0]:=by rw[<- hY,<- hg];exact ai.new _ _ _
   have M0:az (fun q=>q=nb) X8 Y:=hd1.below tC;have hgl:X8.heap.size<=g:=by rw[<- hg];exact hd1.size
   have I4:Below X8.heap.size X8 Y:=EU.trans (tC.mono EU.size);refine(yw (v:=.pointer (some ⟨g,0,none⟩)) (w':=Y) (by simp only[aaM,aaL,aaK];rfl) (by rfl) (by first|(go_simp;done)|(go_simp;rw[hY,hg])|(go_simp;rw[hg];rfl)) (fun _=>eY.out _ M0) ?_);simp only[Act.put,sA,sZ,sC];refine jK (ma (by simp only[aaM,aaL,aaK];rfl) (by rfl) (by go_simp) ((HUSE.out _ I4).mono ?_));rintro e1 w1 ⟨UA,un,Em,rfl,AO,QC,hb1⟩;rw[Tw.out]at AO QC;have EZ:Below X8.heap.size X8 w1:=I4.trans (hb1.mono I4.size);have hsR:az (fun q=>q=nb) X8 w1:=M0.below hb1;have hS1:=eY.out _ hsR;have XM:=wO.below hb1 wO.lt;refine⟨_,rfl,fun _=>hS1,?_⟩;simp only[Act.put,sA,sZ,sC];refine jK (ma (by simp only[aaM,aaL,aaK];rfl) (by rfl) (by go_simp) ((aal.out w1 UA un Em EZ (QC.mono I4.size) AO).mono ?_));rintro e2 w2 ⟨A9,c9,rfl,hK,-,hs2⟩;rw[HTT.out]at hK⊢;rw[Q9.out];have DF:az (fun q=>q=nb) X8 w2:=hsR.trans hs2;have hS2:=eY.out _ DF;refine⟨_,rfl,fun _=>hS2,?_⟩;simp only[Act.put,sA,sZ,sC];have uN:=XM.since hs2 (by have:=kU.out;omega);obtain⟨⟨m0,m1,m2,m3,m4⟩,f0,f1,f2,f3,f4⟩:=uN.five;have lm:=uN.lt;have hKZ:=hK.keeps (w':=bZ w2 g (.int .i64 k9) (.string x9) (.int .i64 a9) (.int .i64 z9) (.slice A9 n9 c9)) (fun q cs hP hc=>qj.block q (aaG.1 hc).1 (fun e=>by have hp:_<=q:=hP;have:=XM.lt;omega));have hkz:=hKZ.low (lo':=X8.heap.size) EZ.size;refine jK (wI (w':=bZ w2 g (.int .i64 k9) (.string x9) (.int .i64 a9) (.int .i64 z9) (.slice A9 n9 c9)) (by simp only[aaM,aaL,aaK];rfl) (by rfl) (by go_simp;rfl) (by simp) ?_);simp only[Act.put];refine xx ?_;have HQ:=kH (iP.out w2 g A9 c9 hgl uN DF hkz);clear m0 m1 m2 m3 m4 f0 f1 f2 f3 f4 lm hS0 hS1 hS2;generalize bZ w2 g (.int .i64 k9) (.string x9) (.int .i64 a9) (.int .i64 z9) (.slice A9 n9 c9)=ZZ at HQ⊢
   go_wp2_with fail
   go_meet
   exact⟨g,A9,c9,rfl,HQ⟩
 case rest=>
  obtain⟨gP,A9,c9,rfl,HX⟩:=hcut;obtain⟨hg,hB,rC,hs⟩:=HX.out;obtain⟨hka,hc9⟩:=rC.Ua;obtain⟨⟨q0,q1,q2,q3,q4⟩,-⟩:=hB.five;have lq:=hB.lt;have hnb:=kU.out;have hTc:=HT8.out.since hs (by have:=D7.out.lt;omega);have hRc:=Bb.out.since hs (by have:=HR4.out.lt;omega);have XC:=HZ8.out.since hs (by have:=HZ4.out.lt;omega);have hOc:=HO8.out.since hs (fun g hg e=>by have h1:=(HO8.out.lt g hg).1;have h2:=(Ha.out.lt g hg).2;omega);have hbc:Below w.heap.size w wc:=tY.out.trans (hs.toBelow tY.out.size (fun q hq=>by have:=p9.out.size;omega));have TC:=kH (HRES2.out wc A9 c9 hc9 hka);have HRc:=kH hRc;have HZc:=kH XC;have HOc:=kH hOc;have HBc:=kH hbc;have HBg:=kH hB;have HKC:=kH rC;rw[Q9.out]at TC;clear hg hB rC hka hc9 hs hnb hTc hRc XC hOc hbc;go_wp2_with fail
  clear q0 q1 q2 q3 q4 lq;refine TC.out.mono ?_;rintro e w6 ⟨KM,AX,Gj,Gh,Aw2,cw2,rfl,-,I9,hb6⟩;obtain⟨r2,hr2⟩:∃q,w6.heap.size=q:=⟨_,rfl⟩
  obtain⟨W7,uC⟩:∃W,w6.alloc (.cells #[.slice KM nd' AX,.slice Gj nu Gh] 30)=W:=⟨_,rfl⟩
  have dE:Below w6.heap.size w6 W7:=by rw[<- uC];exact af _ _
  have ed:ai W7 r2 30 #[.slice KM nd' AX,.slice Gj nu Gh]:=by rw[<- uC,<- hr2];exact ai.new _ _ _
  have I1:Below wc.heap.size wc W7:=hb6.trans (dE.mono hb6.size);have hRr:=HRc.out.below I1 HRc.out.lt;have hZr:=HZc.out.below I1 HZc.out.lt;have hBr:=HBg.out.below I1 HBg.out.lt;have uM:=HOc.out.below I1 (fun g hg=>(HOc.out.lt g hg).2);have hO2:=I9.below dE (fun g hg=>(I9.lt g hg).2);have heq:=eqI_any Gj uA nu nu Gh uc us us W7 (hO2.rowAt (cells:=dM) (l:=us) rfl (qH _) (fun _ _=>rfl) wV.out) (uM.rowAt (cells:=dM) (l:=us) rfl (qH _) (fun _ _=>rfl) wV.out) wV.out wV.out hl;have HEQ:=kH heq;have HZr:=kH hZr;have Lu:=kH hBr;have iG:Hid (Below w.heap.size w W7):=kH (HBc.out.trans (I1.mono HBc.out.size));have FH:=kH (HKC.out.keeps (bO.of_below I1));have p1:=ed.cell 1;have lp:=ed.lt;have o1:=hRr.cell 1;have lo:=hRr.lt;clear I9 hb6 dE ed I1 hRr hZr hBr uM hO2 heq TC;go_wp2_with (first|rw[uC]|rw[hr2])
  clear uC hr2 p1 lp o1 lo;refine HEQ.out.mono ?_;rintro e w8 ⟨rfl,dK⟩;have Qr:=HZr.out.below dK HZr.out.lt;have hB8:=Lu.out.below dK Lu.out.lt;obtain⟨⟨q0,q1,q2,q3,q4⟩,-⟩:=hB8.five;have lq:=hB8.lt;obtain⟨⟨m0,m1,m2,m3,m4⟩,f0,f1,f2,f3,f4⟩:=Qr.five;have lz:=Qr.lt;obtain⟨Z,hZ⟩:∃Z,bZ w8 (w.heap.size+1) (.int .i64 k9) (.string x9) (.int .i64 a9) (.int .i64 z9) (.slice A9 n9 c9)=Z:=⟨_,rfl⟩
  have uL:az (fun q=>q=w.heap.size+1) w8 Z:=by rw[<- hZ];exact qj
  have XG:ai Z (w.heap.size+1) 24 #[.int .i64 k9,.string x9,.int .i64 a9,.int .i64 z9,.slice A9 n9 c9]:=by rw[<- hZ];exact ai.BZ Qr _ _ _ _ _
  have aV:Hid (QX T w (.returned (.tuple #[.agg #[.int .i64 k9,.string x9,.int .i64 a9,.int .i64 z9,.slice A9 n9 c9],.int .i64 0])) Z):=kH (by
   have hkz:=(FH.out.keeps (bO.of_below dK)).keeps (w':=Z) (fun q cs hP hc=>uL.block q (aaG.1 hc).1 (fun e=>by have hp:X8.heap.size<=q:=hP;have:=HZ8.out.lt;omega));have hb:Below w.heap.size w w8:=iG.out.trans (dK.mono iG.out.size)
   exact⟨A9,c9,by rw[Q9.out],hkz.low tY.out.size,hb.trans (uL.toBelow hb.size (fun q hq=>by omega))⟩)
  obtain⟨⟨y0,y1,y2,y3,y4⟩,-⟩:=XG.five;unfold bZ at hZ;clear uL XG Qr hB8 dK;go_wp2_with (rw[hZ])
  try simp only[Exit.inBlock,Exit.then]
  refine bodyPost_ret (v:=.tuple #[.agg #[.int .i64 k9,.string x9,.int .i64 a9,.int .i64 z9,.slice A9 n9 c9],.int .i64 0]) (by simp[results,Tryz.results28,go_sem,y0,y1,y2,y3,y4]) rfl ?_;exact aV.out
end Go.Proofs.YtoepemlnlpamlaaGreat
namespace Go.Proofs
open Go.Shelf
def Tryz.RP:Go.Shelf.Ren:=⟨fun|144=>27|143=>52|219=>90|217=>162|225=>163|224=>164|267=>165|266=>210|314=>211|n=>n,fun|9=>9|4=>4|3=>3|5=>5|46=>218|146=>240|51=>239|n=>n,fun|1=>0|n=>n⟩
theorem Tryz.lays144:Go.Proofs.Lays.n144 Tryz.prog Tryz.RP:={
 mixed:=by kernel_rfl
 f143:=Tryz.func52.trans (congrArg some (by kernel_rfl))
 f144:=Tryz.func27.trans (congrArg some (by kernel_rfl))
 f217:=Tryz.func162.trans (congrArg some (by kernel_rfl))
 f219:=Tryz.func90.trans (congrArg some (by kernel_rfl))
 f224:=Tryz.func164.trans (congrArg some (by kernel_rfl))
 f225:=Tryz.func163.trans (congrArg some (by kernel_rfl))
 f266:=Tryz.func210.trans (congrArg some (by kernel_rfl))
 f267:=Tryz.func165.trans (congrArg some (by kernel_rfl))
 f314:=Tryz.func211.trans (congrArg some (by kernel_rfl))
 t3:=Tryz.underlying3
 a3:=Tryz.isAgg3
 z3:=Tryz.sizeOf3
 v3:=Tryz.zeroValue3
 t4:=Tryz.underlying4
 a4:=Tryz.isAgg4
 z4:=Tryz.sizeOf4
 v4:=Tryz.zeroValue4
 t5:=Tryz.underlying5
 a5:=Tryz.isAgg5
 z5:=Tryz.sizeOf5
 v5:=Tryz.zeroValue5
 t9:=Tryz.underlying9
 a9:=Tryz.isAgg9
 z9:=Tryz.sizeOf9
 v9:=Tryz.zeroValue9
 t46:=Tryz.underlying218
 a46:=Tryz.isAgg218
 z46:=Tryz.sizeOf218
 v46:=Tryz.zeroValue218
 t51:=Tryz.underlying239
 a51:=Tryz.isAgg239
 z51:=Tryz.sizeOf239
 v51:=Tryz.zeroValue239
 t146:=Tryz.underlying240
 a146:=Tryz.isAgg240
 z146:=Tryz.sizeOf240
 v146:=Tryz.zeroValue240
 g1:=by kernel_rfl }
open Go.RowKit Go.Lib in
theorem Tryz.strings_Contains(s qN:ByteArray)(m:Int)(w:World)(hs:s.size<4294967281)(hm:w.cell? ⟨0,0,none⟩=some (.int .i64 m)):
 Calls Tryz.prog 27 #[.string s,.string qN] w fun e w'=>e= .returned (.bool (Lib.contains s.data.toList qN.data.toList))/\w'=w:=Any.strings_Contains Tryz.lays144 s qN m w hs hm
end Go.Proofs
namespace Go.Proofs.YtoepemlnlpamlaaGreat
open Go.RowKit
def QZ(s:ByteArray)(w:World)(e:Ending)(w':World):Prop:=
 ∃t A c DA dn dc Nh,e= .returned (.tuple #[aX t A c,.slice DA (dn:Nat) dc,.int .i64 Nh])/\ah t<=1000000/\(Nh=0->∃f ds,lL f s.data.toList=some (t,ds))/\aB w' (fun g=>w.heap.size<=g) t [.int .i64 t.kind,.string t.text,.int .i64 t.at_,.int .i64 t.end_,.slice A t.kids.length c]/\Below w.heap.size w w'
theorem RF(s:ByteArray)(w:World)(hs:4096<s.size):Calls Tryz.prog 37 #[.string s] w (QZ s w):=by
 have hgt:(4096:Int)<s.size:=by omega
 have HE:Hid (∀w',Below w.heap.size w w'->QZ s w (.returned (.tuple #[.agg #[.int .i64 0,.string ⟨#[]⟩,.int .i64 0,.int .i64 0,.slice none 0 0],.slice none 0 0,.int .i64 8])) w'):=kH (fun w' hb=>⟨.node 0 ⟨#[]⟩ 0 0 [],none,0,none,0,0,8,rfl,by decide,fun h=>(by cases h),⟨none,0,[],rfl,aL.nil _ _ _ _,fun g hg=>by(cases hg),rfl⟩,hb⟩);go_enter Tryz.func37,Tryz.ntmps37
 go_wp2_with fail
 try simp only[Exit.inBlock,Exit.then]
 refine bodyPost_ret (v:=.tuple #[.agg #[.int .i64 0,.string ⟨#[]⟩,.int .i64 0,.int .i64 0,.slice none 0 0],.slice none 0 0,.int .i64 8]) (by simp[results,Tryz.results37,go_sem]) rfl ?_;exact HE.out _ (by(repeat (first|exact Below.refl _ _|assumption|refine Below.trans ?_ (Below.mono (by assumption) (by first|omega|(simp;done)|(simp;omega)))|refine Below.alloc ?_ (by first|omega|(simp;done)|(simp;omega)) _|refine Below.setCell ?_ (by first|omega|(simp;done)|(simp;omega)) _|refine Below.drew ?_|refine aY ?_ _)))
theorem UT(s:ByteArray)(w:World):Calls Tryz.prog 37 #[.string s] w (QZ s w):=by
 by_cases hs:s.size<=4096
 ·refine(ML s w hs).mono ?_
  rintro e w' ⟨f,t,ds,hp,ht⟩;obtain⟨k,x,a,z,A,n,c,DA,dn,dc,rfl,hT,-,-,hb⟩:=ht;obtain⟨A',c',h1,-⟩:=(aB.at_ t _ hT).five;have h2:=h1;simp only[List.cons.injEq,Value.int.injEq,Value.string.injEq,Value.slice.injEq,true_and,and_true]at h2;obtain⟨rfl,rfl,rfl,rfl,rfl,rfl,rfl⟩:=h2;exact⟨t,A,c,DA,dn,dc,0,rfl,WQ hp (by rw[bS];exact hs),fun _=>⟨f,ds,hp⟩,hT,hb⟩
 ·exact RF s w (by omega)
def BOk(b:Bool)(s:ByteArray)(Nh:Int):Prop:=b=true->s.size<=500/\Nh=0
def TreeB(s:ByteArray)(w:World)(e:Ending)(w':World):Prop:=
 ∃t A c b,e= .returned (.tuple #[aX t A c,.bool b])/\ah t<=1000000/\(b=true->s.size<=500/\∃f ds,lL f s.data.toList=some (t,ds))/\t.kids.length<=c/\aD w' w'.heap.size A 0 t.kids/\Below w.heap.size w w'
theorem Wx(s:ByteArray)(w:World):Calls Tryz.prog 22 #[.string s] w (TreeB s w):=by
 obtain⟨W0,hW0⟩:∃W0,w.alloc (.cells #[.int .i64 0,.string ⟨#[]⟩,.int .i64 0,.int .i64 0,.slice none 0 0] 24)=W0:=⟨_,rfl⟩
 have hb0:Below w.heap.size w W0:=by rw[<- hW0];exact af _ _
 have hR0:ai W0 w.heap.size 24 #[.int .i64 0,.string ⟨#[]⟩,.int .i64 0,.int .i64 0,.slice none 0 0]:=by rw[<- hW0];exact ai.new _ _ _
 have HP:=kH (UT s W0);have HB0:=kH hb0;have Yp:=kH hR0;clear hb0 hR0;go_enter Tryz.func22,Tryz.ntmps22
 go_wp2_with (rw[hW0])
 clear hW0;refine HP.out.mono ?_;rintro e1 w1 ⟨t,A,c,DA,dn,dc,Nh,rfl,hcn,Km,hT,hb1⟩;obtain⟨k0,x0,a0,z0,n0,-,-,-,-,-,mP⟩:=gM t A c;rw[mP];obtain⟨W1,hW1⟩:∃W1,w1.alloc (.cells #[.int .i64 k0,.string x0,.int .i64 a0,.int .i64 z0,.slice A n0 c] 24)=W1:=⟨_,rfl⟩
 have hbW:Below w1.heap.size w1 W1:=by rw[<- hW1];exact af _ _
 have zV:ai W1 w1.heap.size 24 #[.int .i64 k0,.string x0,.int .i64 a0,.int .i64 z0,.slice A n0 c]:=by rw[<- hW1];exact ai.new _ _ _
 have eD:=(Yp.out.below hb1 Yp.out.lt).below hbW (Yp.out.below hb1 Yp.out.lt).lt;have hBW:Below w.heap.size w W1:=HB0.out.trans ((hb1.trans (hbW.mono hb1.size)).mono HB0.out.size);have SE:=zV.cell 0;have n1:=zV.cell 1;have n2:=zV.cell 2;have n3:=zV.cell 3;have n4:=zV.cell 4;have ln:=zV.lt;have r0:=eD.cell 0;have r1:=eD.cell 1;have r2:=eD.cell 2;have r3:=eD.cell 3;have r4:=eD.cell 4;have g0:=eD.frozen 0;have g1:=eD.frozen 1;have g2:=eD.frozen 2;have g3:=eD.frozen 3;have g4:=eD.frozen 4;have lr:=eD.lt
 have hZ:ai (bZ W1 w.heap.size (.int .i64 k0) (.string x0) (.int .i64 a0) (.int .i64 z0) (.slice A n0 c)) w.heap.size 24 #[.int .i64 k0,.string x0,.int .i64 a0,.int .i64 z0,.slice A n0 c]:=by
  have:=((((eD.fU 0 (.int .i64 k0)).fU 1 (.string x0)).fU 2 (.int .i64 a0)).fU 3 (.int .i64 z0)).fU 4 (.slice A n0 c);unfold bZ;simpa using this
 have uL:az (fun g=>g=w.heap.size) W1 (bZ W1 w.heap.size (.int .i64 k0) (.string x0) (.int .i64 a0) (.int .i64 z0) (.slice A n0 c)):=by
  unfold bZ;exact((((az.setCell (S:=fun g=>g=w.heap.size) (az.refl _ W1) (p:=⟨w.heap.size,0,none⟩) (.inl rfl) _).setCell (p:=⟨w.heap.size,1,none⟩) (.inl rfl) _).setCell (p:=⟨w.heap.size,2,none⟩) (.inl rfl) _).setCell (p:=⟨w.heap.size,3,none⟩) (.inl rfl) _).setCell (p:=⟨w.heap.size,4,none⟩) (.inl rfl) _
 have hTZ:aB (bZ W1 w.heap.size (.int .i64 k0) (.string x0) (.int .i64 a0) (.int .i64 z0) (.slice A n0 c)) (fun g=>W0.heap.size<=g) t [.int .i64 t.kind,.string t.text,.int .i64 t.at_,.int .i64 t.end_,.slice A t.kids.length c]:=by
  refine aB.keeps ?_ t _ (aB.keeps (bO.of_below hbW) t _ hT);intro g cs hP hg;have hlt:=(aaG.1 hg).1;refine uL.block g hlt (fun e=>?_);have h1:W0.heap.size<=g:=hP;have h2:=Yp.out.lt;omega
 have hat:=aB.at_ t _ hTZ;have hcap:=hat.cap;obtain⟨A',c',h1,hkZ⟩:=hat.five;simp only[List.cons.injEq,Value.slice.injEq,true_and,and_true]at h1;obtain⟨rfl,rfl⟩:=h1;have HE:Hid (∀b,BOk b s Nh->TreeB s w (.returned (.tuple #[.agg #[.int .i64 k0,.string x0,.int .i64 a0,.int .i64 z0,.slice A n0 c],.bool b])) (bZ W1 w.heap.size (.int .i64 k0) (.string x0) (.int .i64 a0) (.int .i64 z0) (.slice A n0 c))):=kH (fun b hbb=>⟨t,A,c,b,by rw[mP],hcn,fun h=>⟨(hbb h).1,Km (hbb h).2⟩,hcap,hkZ,hBW.trans (uL.toBelow hBW.size (fun g hg=>by rw[hg];exact aaD _))⟩);have HZ:=kH hZ;clear hTZ hat hcap hkZ uL hZ hBW eD zV hbW hT hcn Km mP hb1 HP;by_cases c1:s.size<=500
 ·have c1':(s.size:Int)<=500:=by omega
  by_cases c2:Nh=0
  ·subst c2
   by_cases c3:dn=0
   ·subst c3
    go_wp2_with (rw[hW1])
    have hz:=HZ.out;have he:=HE.out true (fun _=>⟨c1,rfl⟩);unfold bZ at hz he;clear r0 r1 r2 r3 r4;generalize ((((W1.setCell ⟨w.heap.size,0,none⟩ (.int .i64 k0)).setCell ⟨w.heap.size,1,none⟩ (.string x0)).setCell ⟨w.heap.size,2,none⟩ (.int .i64 a0)).setCell ⟨w.heap.size,3,none⟩ (.int .i64 z0)).setCell ⟨w.heap.size,4,none⟩ (.slice A n0 c)=WZ at hz he⊢
    have r0:=hz.cell 0;have r1:=hz.cell 1;have r2:=hz.cell 2;have r3:=hz.cell 3;have r4:=hz.cell 4;refine bodyPost_ret (v:=.tuple #[.agg #[.int .i64 k0,.string x0,.int .i64 a0,.int .i64 z0,.slice A n0 c],.bool true]) (by simp[results,Tryz.results22,go_sem,r0,r1,r2,r3,r4]) rfl ?_;exact he
   ·have c3':((dn:Int)==0)=false:=by simp;omega
    go_wp2_with (rw[hW1])
    have hz:=HZ.out;have he:=HE.out false (fun h=>(by cases h));unfold bZ at hz he;clear r0 r1 r2 r3 r4;generalize ((((W1.setCell ⟨w.heap.size,0,none⟩ (.int .i64 k0)).setCell ⟨w.heap.size,1,none⟩ (.string x0)).setCell ⟨w.heap.size,2,none⟩ (.int .i64 a0)).setCell ⟨w.heap.size,3,none⟩ (.int .i64 z0)).setCell ⟨w.heap.size,4,none⟩ (.slice A n0 c)=WZ at hz he⊢
    have r0:=hz.cell 0;have r1:=hz.cell 1;have r2:=hz.cell 2;have r3:=hz.cell 3;have r4:=hz.cell 4;refine bodyPost_ret (v:=.tuple #[.agg #[.int .i64 k0,.string x0,.int .i64 a0,.int .i64 z0,.slice A n0 c],.bool false]) (by simp[results,Tryz.results22,go_sem,r0,r1,r2,r3,r4]) rfl ?_;exact he
  ·have c2':(Nh==0)=false:=by simp[c2]
   go_wp2_with (rw[hW1])
   have hz:=HZ.out;have he:=HE.out false (fun h=>(by cases h));unfold bZ at hz he;clear r0 r1 r2 r3 r4;generalize ((((W1.setCell ⟨w.heap.size,0,none⟩ (.int .i64 k0)).setCell ⟨w.heap.size,1,none⟩ (.string x0)).setCell ⟨w.heap.size,2,none⟩ (.int .i64 a0)).setCell ⟨w.heap.size,3,none⟩ (.int .i64 z0)).setCell ⟨w.heap.size,4,none⟩ (.slice A n0 c)=WZ at hz he⊢
   have r0:=hz.cell 0;have r1:=hz.cell 1;have r2:=hz.cell 2;have r3:=hz.cell 3;have r4:=hz.cell 4;refine bodyPost_ret (v:=.tuple #[.agg #[.int .i64 k0,.string x0,.int .i64 a0,.int .i64 z0,.slice A n0 c],.bool false]) (by simp[results,Tryz.results22,go_sem,r0,r1,r2,r3,r4]) rfl ?_;exact he
 ·have c1':¬((s.size:Int)<=500):=by omega
  go_wp2_with (rw[hW1])
  have hz:=HZ.out;have he:=HE.out false (fun h=>(by cases h));unfold bZ at hz he;clear r0 r1 r2 r3 r4;generalize ((((W1.setCell ⟨w.heap.size,0,none⟩ (.int .i64 k0)).setCell ⟨w.heap.size,1,none⟩ (.string x0)).setCell ⟨w.heap.size,2,none⟩ (.int .i64 a0)).setCell ⟨w.heap.size,3,none⟩ (.int .i64 z0)).setCell ⟨w.heap.size,4,none⟩ (.slice A n0 c)=WZ at hz he⊢
  have r0:=hz.cell 0;have r1:=hz.cell 1;have r2:=hz.cell 2;have r3:=hz.cell 3;have r4:=hz.cell 4;refine bodyPost_ret (v:=.tuple #[.agg #[.int .i64 k0,.string x0,.int .i64 a0,.int .i64 z0,.slice A n0 c],.bool false]) (by simp[results,Tryz.results22,go_sem,r0,r1,r2,r3,r4]) rfl ?_;exact he
def Bq:aP:=[110,101,119,95,110,97,109,101]
theorem MV:∀(s d:List UInt8),Lib.index s d= -1->∀i,i<=s.length->Lib.occAt s d i=false
 | [],d,h,i,hi=>by
  have h0:i=0:=by simpa using hi
  subst h0;unfold Lib.index at h;unfold Lib.occAt
  cases d with
  | nil=>simp at h
  | cons a t=>rfl
 | b::l,d,h,i,hi=>by
  unfold Lib.index at h;split at h
  ·exact absurd h (by decide)
  ·rename_i hp
   have hl:Lib.index l d= -1:=by
    split at h
    ·rename_i h1
     exact beq_iff_eq.1 h1
    ·have:=Lib.index_ge l d
     omega
   cases i with
   | zero=>
    unfold Lib.occAt;rw[List.drop_zero];exact Bool.eq_false_iff.2 hp
   | succ i=>
    have:=MV l d hl i (by simpa using hi);simpa [Lib.occAt] using this
theorem MO{s d u v:List UInt8}(h:Lib.contains s d=false):s≠u++d++v:=fun e=>by
 have h1:Lib.index s d= -1:=by
  have h2:¬(0<=Lib.index s d):=by simpa [Lib.contains] using h
  have:=Lib.index_ge s d;omega
 have h3:=MV s d h1 u.length (by rw[e];simp)
 have h4:Lib.occAt s d u.length=true:=by
  unfold Lib.occAt;rw[e,List.append_assoc,List.drop_left,List.isPrefixOf_iff_prefix];exact List.prefix_append _ _
 rw[h4]at h3;cases h3
theorem DW:∀l:aP,∃u,l=u++eG l
 | []=>⟨[],rfl⟩
 | [a]=>⟨[],by
  rw[eG]
  ·rfl
  ·intro c' r' e
   cases e⟩
 | a::c::r=>by
  by_cases ha:a=48
  ·subst ha
   obtain⟨u,hu⟩:=DW (c::r);refine⟨48::u,?_⟩;rw[eG,List.cons_append,<- hu]
  ·refine⟨[],?_⟩
   rw[eG]
   ·rfl
   ·intro c' r' e
    cases e
    exact ha rfl
theorem WY{s:aP}(h:Lib.contains s Bq=false){f:Nat}{t:aa}{ds:List Dg}(hp:lL f s=some (t,ds)):∀y∈dV t,y.text≠aU Bq:=by
 have hw:∀k,∃u v,s=u++bE s (iK s) k++v:=fun k=>by
  refine⟨s.take (gq (iK s) k).at_,(s.drop (gq (iK s) k).at_).drop ((gq (iK s) k).end_ - (gq (iK s) k).at_),?_⟩;show s=s.take _++(s.drop _).take _++_;rw[List.append_assoc,List.take_append_drop,List.take_append_drop]
 have hmk:∀l:aP,aU l=aU Bq->l=Bq:=fun l e=>by
  have:=congrArg (fun b:ByteArray=>b.data.toList) e;simpa [aU] using this
 have H:TxP (fun x=>x≠aU Bq) s (iK s):=
  ⟨fun e=>absurd (hmk _ e) (by decide),fun e=>absurd (hmk _ e) (by decide),fun e=>absurd (hmk _ e) (by decide),fun e=>absurd (hmk _ e) (by decide),fun e=>absurd (hmk _ e) (by decide),fun k e=>by
   obtain⟨u,v,huv⟩:=hw k;rw[hmk _ e]at huv
   exact MO h huv,fun k e=>by
   obtain⟨u,v,huv⟩:=hw k;obtain⟨q,hq⟩:=DW (bE s (iK s) k);rw[hq,hmk _ e,<- List.append_assoc]at huv
   exact MO h huv⟩
 exact LB (WR H hp)
end Go.Proofs.YtoepemlnlpamlaaGreat
