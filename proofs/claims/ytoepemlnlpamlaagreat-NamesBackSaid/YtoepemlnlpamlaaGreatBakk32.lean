/- The law NamesBack holds for every text and every number: it returns true, and its arguments read as before. No condition. Part 32: Res2. -/
import Derived.Test.YtoepemlnlpamlaaGreatBakk31
set_option maxRecDepth 100000
set_option maxHeartbeats 4000000
namespace Go.Proofs.YtoepemlnlpamlaaGreat
open Go.RowKit
theorem WL(w:World)(k0:Int)(x0:ByteArray)(a0 z0:Int)(A:Option Addr)(n0 c:Nat):∃W1,
 (((((w.alloc (.cells #[.int .i64 k0,.string x0,.int .i64 a0,.int .i64 z0,.slice A n0 c] 24)).alloc (.map #[] 0)).alloc (.map #[] 0)).alloc (.map #[] 0)).alloc (.map #[] 0)).alloc (.cells #[.map (some (w.heap.size+1)),.map (some (w.heap.size+1+1)),.map (some (w.heap.size+1+1+1)),.slice none 0 0,.slice none 0 0,.map (some (w.heap.size+1+1+1+1)),.slice none 0 0,.int .i64 0,.int .i64 0] 75)=W1 /\
 aS ⟨w.heap.size,w.heap.size+1+1+1+1+1,w.heap.size+1,w.heap.size+1+1,w.heap.size+1+1+1,w.heap.size+1+1+1+1,none,0⟩ ⟨[],[],[]⟩ ⟨[],[],[],[],0,0⟩ ⟨none,0,none,0,[]⟩ W1 /\
 ai W1 w.heap.size 24 #[.int .i64 k0,.string x0,.int .i64 a0,.int .i64 z0,.slice A n0 c]/\Below w.heap.size w W1:=by
 refine⟨_,rfl,⟨?_,?_,?_,?_,?_,rfl,aL.nil _ _ _ _,aL.nil _ _ _ _,aL.nil _ _ _ _,⟨by simp;omega,by simp;omega⟩,⟨by simp;omega,by simp;omega,by simp⟩⟩,?_,?_⟩
 ·have:=ai.new (((((w.alloc (.cells #[.int .i64 k0,.string x0,.int .i64 a0,.int .i64 z0,.slice A n0 c] 24)).alloc (.map #[] 0)).alloc (.map #[] 0)).alloc (.map #[] 0)).alloc (.map #[] 0)) 75 #[.map (some (w.heap.size+1)),.map (some (w.heap.size+1+1)),.map (some (w.heap.size+1+1+1)),.slice none 0 0,.slice none 0 0,.map (some (w.heap.size+1+1+1+1)),.slice none 0 0,.int .i64 0,.int .i64 0]
  simpa using this
 ·have:=((((aZ.made (KK:=jg) (w.alloc (.cells #[.int .i64 k0,.string x0,.int .i64 a0,.int .i64 z0,.slice A n0 c] 24))).alloc (.map #[] 0)).alloc (.map #[] 0)).alloc (.map #[] 0)).alloc (.cells #[.map (some (w.heap.size+1)),.map (some (w.heap.size+1+1)),.map (some (w.heap.size+1+1+1)),.slice none 0 0,.slice none 0 0,.map (some (w.heap.size+1+1+1+1)),.slice none 0 0,.int .i64 0,.int .i64 0] 75)
  simpa [jF] using this
 ·have:=(((aZ.made (KK:=jg) ((w.alloc (.cells #[.int .i64 k0,.string x0,.int .i64 a0,.int .i64 z0,.slice A n0 c] 24)).alloc (.map #[] 0))).alloc (.map #[] 0)).alloc (.map #[] 0)).alloc (.cells #[.map (some (w.heap.size+1)),.map (some (w.heap.size+1+1)),.map (some (w.heap.size+1+1+1)),.slice none 0 0,.slice none 0 0,.map (some (w.heap.size+1+1+1+1)),.slice none 0 0,.int .i64 0,.int .i64 0] 75)
  simpa [jF] using this
 ·have:=((aZ.made (KK:=kF) (((w.alloc (.cells #[.int .i64 k0,.string x0,.int .i64 a0,.int .i64 z0,.slice A n0 c] 24)).alloc (.map #[] 0)).alloc (.map #[] 0))).alloc (.map #[] 0)).alloc (.cells #[.map (some (w.heap.size+1)),.map (some (w.heap.size+1+1)),.map (some (w.heap.size+1+1+1)),.slice none 0 0,.slice none 0 0,.map (some (w.heap.size+1+1+1+1)),.slice none 0 0,.int .i64 0,.int .i64 0] 75)
  simpa [uH] using this
 ·have:=(aZ.made (KK:=kF) ((((w.alloc (.cells #[.int .i64 k0,.string x0,.int .i64 a0,.int .i64 z0,.slice A n0 c] 24)).alloc (.map #[] 0)).alloc (.map #[] 0)).alloc (.map #[] 0))).alloc (.cells #[.map (some (w.heap.size+1)),.map (some (w.heap.size+1+1)),.map (some (w.heap.size+1+1+1)),.slice none 0 0,.slice none 0 0,.map (some (w.heap.size+1+1+1+1)),.slice none 0 0,.int .i64 0,.int .i64 0] 75)
  simpa using this
 ·exact((((ai.new w _ _).alloc _).alloc _).alloc _ |>.alloc _).alloc _
 ·exact((((((Below.refl _ w).alloc (aaD _) _).alloc (by simp) _).alloc (by simp;omega) _).alloc (by simp;omega) _).alloc (by simp;omega) _).alloc (by simp;omega) _
theorem MW:∀(a:List Dc) (d:Dc) (i:Nat) (l:List (Int×Int)),uI (a++[d]) i l=cO (uI a i l) d.node ((i+a.length:Nat):Int)
 | [],d,i,l=>rfl
 | x::a,d,i,l=>by
  rw[List.cons_append,uI,MW a d (i+1) _,uI,aaQ];congr 2
  omega
def QY(t:aa)(w:World)(e:Ending)(w':World):Prop:=∃E V,e= .returned (.pointer (some ⟨E.rp,0,none⟩))/\E.base=w.heap.size/\aS E (eP t) (aR t) V w'/\Below w.heap.size w w'
theorem Gp(t:aa)(A:Option Addr)(c:Nat)(w:World)(hv:pY true t=true)(hN:ah t<=1000000)(hcap:t.kids.length<=c)(hk:aD w w.heap.size A 0 t.kids):
 Calls Tryz.prog 41 #[aX t A c] w (QY t w):=by
 obtain⟨k0,x0,a0,z0,n0,-,-,-,-,hn0,mP⟩:=gM t A c;obtain⟨i0,hi0,hz0,hz1,hz2⟩:=info_parts IQ;obtain⟨W1,hW1,h1,hnb,hb1⟩:=WL w k0 x0 a0 z0 A n0 c;have hcnt:=Fp t A c W1 (by omega) (aD.mono hb1.size _ _ _ (aD.below hb1 (aaD _) _ _ _ hk));rw[mP]at hcnt⊢;obtain⟨N,hNN⟩:∃N,ah t=N:=⟨_,rfl⟩
 rw[hNN]at hcnt hN;have hmm:=@run_makeMap Tryz.prog;have Rm:=kH hcnt;have Lg:=kH hNN;have H1:=kH h1;have kU:=kH hnb;have HB1:=kH hb1;have D9:=kH mP;have HVO:=kH hv;have HCAP:=kH hcap;have HK:=kH hk;have m0:=hnb.cell 0;have m1:=hnb.cell 1;have m2:=hnb.cell 2;have m3:=hnb.cell 3;have m4:=hnb.cell 4;have lm:=hnb.lt;clear hcnt hNN h1 hnb hb1 mP hv hcap hk hn0;go_enter Tryz.func41,Tryz.ntmps41
 go_wp2_with fail
 clear hW1 m0 m1 m2 m3 m4 lm;refine Rm.out.mono ?_;rintro e2 w2 ⟨rfl,hb2⟩;obtain⟨rp,hrp⟩:∃q,w.heap.size+1+1+1+1+1=q:=⟨_,rfl⟩
 rw[hrp]at H1⊢;obtain⟨vi,Ke⟩:∃q,w.heap.size+1+1+1+1=q:=⟨_,rfl⟩
 rw[Ke]at H1⊢;obtain⟨kk,hkk⟩:∃q,w.heap.size+1+1+1=q:=⟨_,rfl⟩
 rw[hkk]at H1⊢;obtain⟨ff,hff⟩:∃q,w.heap.size+1+1=q:=⟨_,rfl⟩
 rw[hff]at H1⊢;obtain⟨gg,hgg⟩:∃q,w.heap.size+1=q:=⟨_,rfl⟩
 rw[hgg]at H1⊢;have HAD:Hid (w.heap.size+1=gg/\gg+1=ff/\ff+1=kk/\kk+1=vi/\vi+1=rp):=kH (by omega);have HR2:Hid (aS ⟨w.heap.size,rp,gg,ff,kk,vi,none,0⟩ ⟨[],[],[]⟩ ⟨[],List.replicate 0 (-1),[],[],0,0⟩ ⟨none,0,none,0,[]⟩ w2):=kH (H1.out.below hb2);have HB2:Hid (Below w.heap.size w w2):=kH (HB1.out.trans (hb2.mono HB1.out.size));have vE:Hid (ai w2 w.heap.size 24 #[.int .i64 k0,.string x0,.int .i64 a0,.int .i64 z0,.slice A n0 c]):=kH (kU.out.below hb2 kU.out.lt);clear hrp Ke hkk hff hgg hb2 Rm H1 HB1 kU;go_wp2_with fail
 go_loopg [21] N (fun gk WG wr=> ∃(j:Nat) (A1:Option Addr) (c1:Nat),WG= .int .i64 (j:Int)/\j+gk=N/\Hid (aS ⟨w.heap.size,rp,gg,ff,kk,vi,A1,c1⟩ ⟨[],[],[]⟩ ⟨[],List.replicate j (-1),[],[],0,0⟩ ⟨none,0,none,0,[]⟩ wr)/\Hid (Below w.heap.size w wr)/\Hid (ai wr w.heap.size 24 #[.int .i64 k0,.string x0,.int .i64 a0,.int .i64 z0,.slice A n0 c]))
 case atStart=>exact⟨0,none,0,rfl,by omega,HR2,HB2,vE⟩
 case round=>
  obtain⟨j,A1,c1,rfl,hj,HR,HB,kU⟩:=hrel;by_cases hlt:j<N
  ·have hlt':(j:Int)<(N:Int):=by omega
   have hw:IntKind.i64.wrap ((j:Int)+1)=(j:Int)+1:=IntWalk.i64_in _ (by omega);have c4:wr.cell? ⟨rp,4,none⟩=some (.slice A1 j c1):=by have:=HR.out.blk.cell 4;simpa using this
   have lr:rp<wr.heap.size:=HR.out.blk.lt;have ho:=HR.out.us;simp only[List.length_replicate]at ho;have HO:=kH ho;clear ho;go_wp2_with (at_builtin;go_must (refine dm _ rfl (.tmp 27) (.tmp 28) _ rfl w.heap.size 3 i0 _ 1 8 Tryz.underlying28 hi0 hz0 hz1 hz2 rfl (.slice A1 j c1) j (iE (List.replicate j (-1))) rfl (HO.out.alloc _) ⟨wr.heap.size,0,none⟩ 1 1 [.int .i64 (-1)] rfl rfl (CQ _ _ _ (by go_simp)) (by simp[Value.oneCell']) (by simp only[maxLen];omega) (by omega) (by have:=HB.out.size;simp;omega) ?_);intro vn w6 hown hgrow hat;obtain⟨A6,c6,kP,-,-⟩:=hown.shape;subst kP;have HOWN:=kH hown;have nW:=kH hgrow;have yQ:=ai.grown (ai.alloc HR.out.blk _) hgrow (fun e1=>HO.out.eu HR.out.blk (by decide) e1.symm);have q4:=yQ.cell 4;have q5:=yQ.frozen 4;have q6:=yQ.lt;clear hown hgrow hat yQ)
   have hal:=HR.out.below (af wr (.cells #[.int .i64 (-1)] 3));have hpu:=hal.pushU rfl rfl (-1) (A3:=A6) (c3:=c6) (by simp only[List.length_replicate];exact HOWN.out) (by simp only[List.length_replicate];exact nW.out);have hrs:List.replicate j (-1:Int)++[-1]=List.replicate (j+1) (-1):=by rw[List.replicate_succ']
   have Zj:=hpu.1;simp only[hrs,List.length_replicate]at Zj;have HP:=kH Zj
   have HPB:Hid (Below w.heap.size w (w6.setCell ⟨rp,4,none⟩ (.slice A6 (j+1) c6))):=kH (by
    have h5:=hpu.2;simp only[List.length_replicate]at h5;have h6:Below w.heap.size (wr.alloc (.cells #[.int .i64 (-1)] 3)) (w6.setCell ⟨rp,4,none⟩ (.slice A6 (j+1) c6)):=h5.toBelow (by have:=HB.out.size;simp;omega) (fun g hg=>hg)
    exact(HB.out.trans ((af wr (.cells #[.int .i64 (-1)] 3)).mono HB.out.size)).trans h6)
   have HPN:Hid (ai (w6.setCell ⟨rp,4,none⟩ (.slice A6 (j+1) c6)) w.heap.size 24 #[.int .i64 k0,.string x0,.int .i64 a0,.int .i64 z0,.slice A n0 c]):=kH
    (((kU.out.alloc (.cells #[.int .i64 (-1)] 3)).grown nW.out (fun e1=>HO.out.eu kU.out (by decide) e1.symm)).far (p:=⟨rp,4,none⟩) (by have:=HAD.out;show w.heap.size≠rp;omega) _)
   clear hal hpu Zj hrs;go_roundg (gk - 1)
   case measure=>omega
   case rel=>exact⟨j+1,A6,c6,by simp,by omega,HP,HPB,HPN⟩
  ·have hjN:j=N:=by omega
   subst hjN;have hge:¬((j:Int)<(j:Int)):=by omega
   have m0:=kU.out.cell 0;have m1:=kU.out.cell 1;have m2:=kU.out.cell 2;have m3:=kU.out.cell 3;have m4:=kU.out.cell 4;have lm:=kU.out.lt;have Zz:=RZ rp gg ff kk w.heap.size _ _ _ _ _ _ wr HR.out.blk ⟨HR.out.gl,HR.out.fl,HR.out.kn⟩ (by have:=HAD.out;omega) (by have:=HAD.out;have:=HB.out.size;omega) t A c (by rw[Lg.out];omega) (aD.below HB.out (aaD _) _ _ _ HK.out);rw[D9.out]at Zz;have HCO:=kH Zz;clear Zz;go_wp2_with fail
   clear m0 m1 m2 m3 m4 lm;refine HCO.out.mono ?_;rintro e3 w3 ⟨rfl,hc3,hs3⟩;have HR3:=kH (HR.out.collected hs3 hc3);have Js:=kH (kU.out.since hs3 (by have:=HAD.out;omega));have HB3:Hid (Below w.heap.size w w3):=kH (HB.out.trans (hs3.toBelow HB.out.size (fun g hg=>by have:=HAD.out;omega)));have m0:=Js.out.cell 0;have m1:=Js.out.cell 1;have m2:=Js.out.cell 2;have m3:=Js.out.cell 3;have m4:=Js.out.cell 4;have lm:=Js.out.lt;obtain⟨r0,hr0⟩:∃r0:RS,(⟨[],List.replicate j (-1),[],[],0,0⟩:RS)=r0:=⟨_,rfl⟩
   have hrb:RB r0 [] (ah t):=by
    rw[<- hr0,Lg.out];exact⟨aaD _,aaD _,aaD _,(fun x hx=>by cases hx),(by simp),(by simpa using hN)⟩
   obtain⟨E,hE⟩:∃E:RC,(⟨w.heap.size,rp,gg,ff,kk,vi,A1,c1⟩:RC)=E:=⟨_,rfl⟩
   have DT:E.base=w.heap.size:=by rw[<- hE]
   have hEr:E.rp=rp:=by rw[<- hE]
   rw[hr0,hE]at HR3;have zP:=Wt E (eP t) w.heap.size (by rw[DT];exact aaD _) t false [] none [] r0 _ w3 A c HR3.out ⟨rfl,rfl⟩ ⟨List.nodup_nil,fun m hm=>by cases hm⟩ (aD.below HB3.out (aaD _) _ _ _ HK.out) HCAP.out (by rw[DT];exact HB3.out.size) HVO.out hrb
   have hres:aR t= { (aF (eP t) false t [] r0).1 with uses:=(aF (eP t) false t [] r0).1.uses.map (mK (aF (eP t) false t [] r0).1.ds),bQ:=(aF (eP t) false t [] r0).1.bQ.map fun x=>(x.1,x.2.map (mK (aF (eP t) false t [] r0).1.ds)) }:=by
    unfold aR;rw[Lg.out,hr0]
   have Kg:=Cu (eP t) t false [] r0;have Zn:=LX (eP t) t false [] r0;have IV:=qi (eP t) t false [] r0;have hkeys:=TS (eP t) t false [] r0 (by rw[<- hr0];exact List.nodup_nil);obtain⟨R,hR⟩:∃R,(aF (eP t) false t [] r0).1=R:=⟨_,rfl⟩
   rw[hR]at zP hres Kg Zn IV hkeys;rw[Lg.out]at Zn;have hr0n:r0.next=0:=by rw[<- hr0]
   have hnd:R.ds.length<=1000000:=by
    have h1:=Kg.ds;have h2:r0.ds.length=0:=by rw[<- hr0];rfl
    omega
   have vK:R.aO.length<=1000000:=by
    have h1:=Kg.aO;have h2:r0.aO.length=0:=by rw[<- hr0];rfl
    omega
   have hnu:R.uses.length=j:=by rw[Kg.zF,<- hr0];simp
   have hrise:xL R.aO:=by
    obtain⟨l,e1,e2,-⟩:=IV.aO;rw[show r0.aO=[] by rw[<- hr0],List.nil_append]at e1;rw[e1];exact e2
   rw[D9.out,hEr]at zP;have HVI:=kH zP;have aM:=kH hres;have HKEYS:=kH hkeys;have HRISE:=kH hrise;have rF:=kH hnd;have tX:=kH vK;have wV:=kH hnu;have HE:Hid (E.base=w.heap.size/\E.rp=rp/\E.vi=vi):=kH ⟨DT,hEr,by rw[<- hE]⟩;clear zP hres hkeys hrise Kg Zn IV hrb hR hr0n hnd vK hnu hE DT hEr hr0 HR3 HCO;go_wp2_with fail
   clear m0 m1 m2 m3 m4 lm;refine HVI.out.mono ?_;rintro e4 w4 ⟨rfl,V4,h4,-,k4⟩
   have p9:Hid (Below w.heap.size w w4):=kH (by
    have:=KX.low k4 (by rw[HE.out.1];exact HB3.out.size);rw[HE.out.1]at this
    exact HB3.out.trans this)
   have H4:=kH h4;clear h4 k4 HVI Js HB3 kU HB HR;have c3:w4.cell? ⟨rp,3,none⟩=some (.slice V4.dA R.ds.length V4.dc):=by have:=H4.out.blk.cell 3;rw[HE.out.2.1]at this;exact this
   have lr4:rp<w4.heap.size:=by have:=H4.out.blk.lt;rw[HE.out.2.1]at this;exact this
   obtain⟨nd,hnd⟩:∃q,R.ds.length=q:=⟨_,rfl⟩
   rw[hnd]at c3;have HNDD:=kH hnd;obtain⟨dA,Kq⟩:∃q,V4.dA=q:=⟨_,rfl⟩
   rw[Kq]at c3;have HDA:=kH Kq;have hndm:nd<=1000000:=by rw[<- hnd];exact rF.out
   clear hnd Kq;go_wp2_with (refine zA (KK:=kF) _ rfl _ _ _ 71 rfl 3 3 Tryz.underlying71 Tryz.underlying3 w4.heap.size [] (-1) (.int .i64 (-1)) rfl rfl rfl (aZ.made w4) (af w4 _) (aaD _) ?_;intro w5 gV hb5;have d3:w5.cell? ⟨rp,3,none⟩=some (.slice dA nd V4.dc):=(hb5.cell (p:=⟨rp,3,none⟩) lr4).trans c3;have HM5:=kH gV;have iQ:=kH hb5;clear gV hb5)
   clear c3 d3 hmm;have HIX:Hid (w.heap.size<=w4.heap.size):=kH p9.out.size;obtain⟨ix,hix⟩:∃q,w4.heap.size=q:=⟨_,rfl⟩
   rw[hix]at HM5 iQ HIX⊢;have aat:=kH hix;clear hix;go_loopg [46] nd (fun gk s46 wr=> ∃i:Nat,s46= .int .i64 (i:Int)/\i+gk=nd/\Hid (aZ kF wr ix (uH (uI (R.ds.take i) 0 [(-1,-1)])))/\Hid (Below ix w4 wr))
   case atStart=>exact⟨0,rfl,by omega,by have:=HM5.out;rw[List.take_zero];exact kH this,iQ⟩
   case round=>
    obtain⟨i,rfl,hi,HM,YA⟩:=hrel;by_cases hlt:i<nd
    ·have hlt':(i:Int)<(nd:Int):=by omega
     have hw:IntKind.i64.wrap ((i:Int)+1)=(i:Int)+1:=IntWalk.i64_in _ (by omega);obtain⟨d,hd⟩:∃d,R.ds[i]? =some d:=⟨_,aaH (by rw[HNDD.out];exact hlt)⟩
     have hb4:Below w4.heap.size w4 wr:=by rw[aat.out];exact YA.out
     have hrow:=(H4.out.ds.below hb4 (fun g hg=>(H4.out.ds.lt g hg).2)).rowAt (cells:=kz) (l:=R.ds) rfl rfl (fun c _=>rfl) rfl;rw[HDA.out]at hrow;obtain⟨b,off,hA,hbl,hcs⟩:=hrow i d hd;subst hA;obtain⟨dk,dn,dv,dw⟩:=d;have t0:wr.cell? ⟨b,off+i*4,none⟩=some (.int .i64 dk):=by simpa using hcs 0 _ rfl
     have t1:wr.cell? ⟨b,off+i*4+1,none⟩=some (.string dn):=by simpa using hcs 1 _ rfl
     have t2:wr.cell? ⟨b,off+i*4+2,none⟩=some (.int .i64 dv):=by simpa using hcs 2 _ rfl
     have t3:wr.cell? ⟨b,off+i*4+3,none⟩=some (.int .i64 dw):=by simpa using hcs 3 _ rfl
     clear hcs hrow hb4;obtain⟨w7,hrun,iM,hg7,hz7⟩:=fe (P:=Tryz.prog) (KK:=kF) (t:=71) (kt:=3) (et:=3) Tryz.underlying71 Tryz.underlying3 (HM.out.alloc (.cells #[.int .i64 dk,.string dn,.int .i64 dv,.int .i64 dw] 49)) dv (.int .i64 (i:Int));change (Instr.mapUpdate 71 (.map (some ix)) (.int .i64 dv) (.int .i64 (i:Int))).run Tryz.prog (wr.alloc (.cells #[.int .i64 dk,.string dn,.int .i64 dv,.int .i64 dw] 49))=_ at hrun;rw[OC]at iM;have hs7:az (fun g=>g=ix) (wr.alloc (.cells #[.int .i64 dk,.string dn,.int .i64 dv,.int .i64 dw] 49)) w7:=(az.refl _ _).grown hg7 (fun k hk=>by cases hk;exact .inl rfl);have hixw:ix<=wr.heap.size:=by have:=YA.out.size;rw[aat.out]at this;exact this
     have iG:Hid (Below ix w4 w7):=kH ((YA.out.trans ((af wr _).mono hixw)).trans (hs7.toBelow (by simp;omega) (fun g hg=>by omega)))
     have HM7:Hid (aZ kF w7 ix (uH (uI (R.ds.take (i+1)) 0 [(-1,-1)]))):=kH (by
      rw[xZ hd,MW]
      have:0+(R.ds.take i).length=i:=by
       have:=(aaJ.1 hd).1;simp;omega
      rw[this]
      exact iM)
     clear iM hg7 hz7 hs7 hixw hd;go_wp2_with fail
     go_roundg (gk - 1)
     case measure=>omega
     case rel=>exact⟨i+1,by simp,by omega,HM7,iG⟩
    ·have hin:i=nd:=by omega
     subst hin;have hge:¬((i:Int)<(i:Int)):=by omega
     have hb4:Below w4.heap.size w4 wr:=by rw[aat.out];exact YA.out
     obtain⟨L,hL⟩:∃L,uI R.ds 0 [(-1,-1)]=L:=⟨_,rfl⟩
     have HF:Hid (∀u,(bJ L u).getD 0=mK R.ds u):=kH (fun u=>by rw[<- hL];rfl)
     have HML:Hid (aZ kF wr ix (uH L)):=kH (by
      have:=HM.out;rw[List.take_of_length_le (by rw[HNDD.out];exact aaD _),hL]at this
      exact this)
     obtain⟨F,hF⟩:∃F:Int->Int,mK R.ds=F:=⟨_,rfl⟩
     rw[hF]at HF aM;have HRU:Hid (aS E (eP t) { R with uses:=(R.uses.take 0).map F++R.uses.drop 0 } V4 wr):=kH (H4.out.below hb4);have tY:Hid (Below w.heap.size w wr):=kH (p9.out.trans (hb4.mono p9.out.size));obtain⟨uA,huA⟩:∃q,E.uA=q:=⟨_,rfl⟩
     obtain⟨uc,huc⟩:∃q,E.uc=q:=⟨_,rfl⟩
     have c4:wr.cell? ⟨rp,4,none⟩=some (.slice uA j uc):=by
      have:=(H4.out.below hb4).blk.cell 4;rw[HE.out.2.1]at this;rw[<- huA,<- huc,<- wV.out];exact this
     have lr:rp<wr.heap.size:=by have:=(H4.out.below hb4).blk.lt;rw[HE.out.2.1]at this;exact this
     have Yi:Hid (E.uA=uA/\E.uc=uc):=kH ⟨huA,huc⟩;clear hL hF hb4 huA huc HM YA;go_wp2_with fail
     clear c4;go_loopg [61] j (fun gk s61 wr=> ∃q:Nat,s61= .int .i64 (q:Int)/\q+gk=j/\Hid (aS E (eP t) { R with uses:=(R.uses.take q).map F++R.uses.drop q } V4 wr)/\Hid (aZ kF wr ix (uH L))/\Hid (Below w.heap.size w wr))
     case atStart=>exact⟨0,rfl,by omega,HRU,HML,tY⟩
     case round=>
      obtain⟨q,rfl,hq,HR,HMX,HB⟩:=hrel;by_cases hlt2:q<j
      ·have hlt2':(q:Int)<(j:Int):=by omega
       have hw2:IntKind.i64.wrap ((q:Int)+1)=(q:Int)+1:=IntWalk.i64_in _ (by omega);obtain⟨u,hu⟩:∃u,R.uses[q]? =some u:=⟨_,aaH (by rw[wV.out];exact hlt2)⟩
       obtain⟨hs1,hs2⟩:=Ox (F:=F) hu;have hdr:=HR.out.below ((Below.refl _ wr).drew);have hll:((R.uses.take q).map F++R.uses.drop q).length=j:=by have:=wV.out;simp;omega
       obtain⟨b,off,hA,hbl,-,hfz,hset⟩:=hdr.JB q (by show q<((R.uses.take q).map F++R.uses.drop q).length;rw[hll];exact hlt2) (fun _=>False);rw[Yi.out.1]at hA;subst hA;obtain⟨b',off',cap',hv',-,-,Vs,-,hcs'⟩:=HR.out.us.form (by show 0<((R.uses.take q).map F++R.uses.drop q).length;rw[hll];omega);have hA':some (⟨b,off,none⟩:Addr)=some ⟨b',off',none⟩:=by rw[<- Yi.out.1];injection hv'
       simp only[aaI,Addr.mk.injEq,and_true]at hA';obtain⟨rfl,rfl⟩:=hA';have cu:wr.cell? ⟨b,off+q,none⟩=some (.int .i64 u):=hcs' q _ (by show(iE ((R.uses.take q).map F++R.uses.drop q))[q]? =_;unfold iE;rw[List.getElem?_map,hs1];rfl);have fu:wr.frozen? ⟨b,off+q,none⟩=false:=hfz
       have c4:wr.cell? ⟨rp,4,none⟩=some (.slice (some ⟨b,off,none⟩) j uc):=by
        have:=HR.out.blk.cell 4;rw[HE.out.2.1]at this;rw[<- Yi.out.1,<- Yi.out.2,<- hll];exact this
       have lr2:rp<wr.heap.size:=by have:=HR.out.blk.lt;rw[HE.out.2.1]at this;exact this
       have lb2:b<wr.heap.size:=hbl;have CX:=uj wr.drew ix L HMX.out.drew u;rw[HF.out u]at CX;have hixb:ix≠b:=fun e1=>HMX.out.jf HR.out.us (by rw[Yi.out.1];show some b=some ix;rw[e1])
       have aak:=kH (hset (F u));have HS2:=kH hs2;have Hd:=kH Vs;obtain⟨y,hy⟩:∃y,F u=y:=⟨_,rfl⟩
       rw[hy]at aak HS2 CX;have hq0:q<j:=hlt2;clear hs1 hs2 hdr hset hcs' hv' Vs hu hy hll hfz hbl;go_wp2_with fail
       refine fT (fun w'=>w'.cell? ⟨rp,4,none⟩=some (.slice (some ⟨b,off,none⟩) j uc)/\(Instr.lookup 71 (.map (some ix)) (.int .i64 u) false).run Tryz.prog w'= .ok (.int .i64 y) w') [9] [true,true,true,true,true,true,true,true,true,false] (by kernel_rfl) (by kernel_rfl) rfl (by kernel_rfl) ?_;have hS0:wr.drew.cell? ⟨rp,4,none⟩=some (.slice (some ⟨b,off,none⟩) j uc)/\(Instr.lookup 71 (.map (some ix)) (.int .i64 u) false).run Tryz.prog wr.drew= .ok (.int .i64 y) wr.drew:=⟨c4,CX⟩
       iterate 9(refine jI rfl hS0 (by intro w' hSw;obtain⟨hs1,hs2⟩:=hSw;go_simp;rfl) ?_;simp only[Act.put,sA,sZ,sC])
       refine kG (w':=wr.drew.setCell ⟨b,off+q,none⟩ (.int .i64 y)) rfl (by go_simp) (by simp) ?_;refine ll ?_;simp only[Act.put]
       have Ai:Hid (aS E (eP t) { R with uses:=(R.uses.take (q+1)).map F++R.uses.drop (q+1) } V4 (wr.drew.setCell ⟨b,off+q,none⟩ (.int .i64 y))):=kH (by
        have:=aak.out.1;rw[HS2.out]at this
        exact this)
       have yC:Hid (aZ kF (wr.drew.setCell ⟨b,off+q,none⟩ (.int .i64 y)) ix (uH L)):=kH (HMX.out.drew.setCell (p:=⟨b,off+q,none⟩) hixb _);have iA:Hid (Below w.heap.size w (wr.drew.setCell ⟨b,off+q,none⟩ (.int .i64 y))):=kH ((HB.out.drew).setCell (p:=⟨b,off+q,none⟩) (by have:=Hd.out;rw[HE.out.1]at this;exact this) _);clear hS0 CX c4 cu fu aak HS2;go_wp2_with fail
       go_roundg (gk - 1)
       case measure=>omega
       case rel=>exact⟨q+1,by simp,by omega,Ai,yC,iA⟩
      ·have hqj:q=j:=by omega
       subst hqj;have hge2:¬((q:Int)<(q:Int)):=by omega
       have c5:wr.cell? ⟨rp,5,none⟩=some (.map (some vi)):=by
        have:=HR.out.blk.cell 5;rw[HE.out.2.1,HE.out.2.2]at this;exact this
       have lr2:rp<wr.heap.size:=by have:=HR.out.blk.lt;rw[HE.out.2.1]at this;exact this
       have Ke:=HR.out.vi;rw[HE.out.2.2]at Ke;have hkv:V4.vals.map (·.1)=R.bQ.map (·.1):=eX.keys HR.out.bQ;obtain⟨w8,hr8,hit8,dK,Pw⟩:=zI (P:=Tryz.prog) (t:=72) (kt:=3) (et:=28) Tryz.underlying72 Ke;have HIT8:=kH hit8
       have Bb:Hid (aS E (eP t) { R with uses:=R.uses.map F,bQ:=zB F (fun _=>true) R.bQ } V4 w8):=kH (by
        have:=HR.out.below dK;rw[List.take_of_length_le (by rw[wV.out];exact aaD _),List.drop_eq_nil_of_le (by rw[wV.out];exact aaD _),List.append_nil]at this;rw[TV]
        exact this)
       have HM8:Hid (aZ kF w8 ix (uH L)):=kH (HMX.out.G6 dK);have xw:Hid (Below w.heap.size w w8):=kH (HB.out.trans (dK.mono HB.out.size));have HKV:=kH hkv;have hvil:=Ke.lt;have HWS:Hid (w.heap.size<=wr.heap.size):=kH HB.out.size;clear Ke hkv hit8 dK Pw;go_wp2_with fail
       obtain⟨it,yJ⟩:∃it,wr.heap.size=it:=⟨_,rfl⟩
       rw[yJ]at HIT8 hvil HWS⊢;clear c5 yJ;go_loopg [] R.bQ.length (fun gk wx=> ∃(left:List (Value×Value)) (f:Int->Bool),gk=left.length/\Hid (mD kF wx vi it V4.vals left)/\Hid (aS E (eP t) { R with uses:=R.uses.map F,bQ:=zB F f R.bQ } V4 wx)/\Hid (aZ kF wx ix (uH L))/\Hid (Below w.heap.size w wx)/\Hid ((left.map (·.1)).Nodup/\∀k∈R.bQ.map (·.1),(f k=true↔Value.int .i64 k∈left.map (·.1))))
       case atStart=>
        refine⟨_,fun _=>true,?_,HIT8,Bb,HM8,xw,kH ⟨?_,fun k hk=>?_⟩⟩
        ·have:=congrArg List.length HKV.out
         simp at this;simp;omega
        ·rw[List.map_map]
         have e1:(V4.vals.map ((fun x=>x.1) ∘ fun x:Int×Value=>(kF.pX x.1,x.2)))=(V4.vals.map (·.1)).map (fun k=>Value.int .i64 k):=by rw[List.map_map];rfl
         rw[e1,HKV.out];exact List.Pairwise.map _ (fun a b hab e2=>hab (by injection e2)) HKEYS.out
        ·rw[<- HKV.out]at hk
         obtain⟨y,hy,rfl⟩:=List.mem_map.1 hk;exact⟨fun _=>List.mem_map.2 ⟨_,List.mem_map.2 ⟨y,hy,rfl⟩,rfl⟩,fun _=>rfl⟩
       case round=>
        obtain⟨left,f,hgl,HI,gF,HMY,NG,HFF⟩:=hrel;rcases Bl (P:=Tryz.prog) 0 HI.out (by omega) with⟨hl0,hnx⟩| ⟨kv,vv,left',w9,hperm,hmem,hnx,hit9,Vl,hsz9,hent⟩
        ·subst hl0
         have hvp:zB F f R.bQ=R.bQ.map fun x=>(x.1,x.2.map F):=YI (fun k hk=>by
          have h:=HFF.out.2 k hk
          cases hf:f k with
          | false=>rfl
          | true=>exact absurd (h.1 hf) (by simp))
         have hrow:=gF.out.ps.rowAt (cells:=iq) (l:=R.aO) rfl rfl (fun c _=>rfl) rfl;obtain⟨np,vK⟩:∃q,R.aO.length=q:=⟨_,rfl⟩
         have c6:wr.cell? ⟨rp,6,none⟩=some (.slice V4.pA np V4.pc):=by
          have:=gF.out.blk.cell 6;rw[HE.out.2.1]at this;rw[<- vK];exact this
         have qw:rp<wr.heap.size:=by have:=gF.out.blk.lt;rw[HE.out.2.1]at this;exact this
         have hsrt:=LJ R.aO V4.pA np V4.pc wr vK hrow HRISE.out (by rw[<- vK];exact tX.out);have HSRT:=kH hsrt;have HVP:=kH hvp;clear hvp hrow vK hsrt;go_wp2_with fail
         refine HSRT.out.mono ?_;rintro e10 bf ⟨rfl,ji⟩;have aV:Hid (QY t w (.returned (.pointer (some ⟨rp,0,none⟩))) bf):=kH ⟨E,V4,by rw[HE.out.2.1],HE.out.1,by rw[aM.out,<- HVP.out];exact gF.out.below ji,NG.out.trans (ji.mono NG.out.size)⟩;clear ji c6;go_wp2_with fail
         go_ret
         exact aV.out
        ·obtain⟨y,hy,he⟩:=List.mem_map.1 hmem
         obtain⟨k1,v0⟩:=y;simp only[Prod.mk.injEq]at he;obtain⟨rfl,rfl⟩:=he;obtain⟨v1,v2,hsp⟩:=List.append_of_mem hy;obtain⟨oa,ob,oc,od,hio⟩:=HI.out.obj;have GR:=gF.out.sinceO Vl (fun g cs t fr hg e=>by subst e;rw[hio]at hg;cases hg) (fun g es ck hg e=>by subst e;rw[hio]at hg;cases hg);obtain⟨l1,lx,l2,zP,hown,hupd⟩:=GR.setVis hsp;have hk1:k1∈R.bQ.map (·.1):=by rw[<- HKV.out];exact List.mem_map.2 ⟨_,hy,rfl⟩
         have hpk:(left.map (·.1)).Perm (Value.int .i64 k1::left'.map (·.1)):=hperm.map (·.1);have hfk:f k1=true:=(HFF.out.2 k1 hk1).2 (hpk.mem_iff.2 (by simp));have hstep:=Wu HKEYS.out zP hfk;obtain⟨A8,c8,dZ,hc8,dP⟩:=hown.shape;obtain⟨n8,hn8⟩:∃q,lx.length=q:=⟨_,rfl⟩
         rw[hn8]at dZ hown hc8;subst dZ;have hn8m:n8<=maxLen:=aaE hc8 dP;simp only[maxLen]at hn8m
         have hixi:ix≠it:=fun e=>by
          obtain⟨es,ck,ho⟩:=HMY.out.isMap;rw[e,hio]at ho;cases ho
         have HM9:Hid (aZ kF w9 ix (uH L)):=kH (HMY.out.since Vl hixi);have sw:Hid (Below w.heap.size w w9):=kH (NG.out.trans (Vl.toBelow NG.out.size (fun g e=>by rw[e];exact HWS.out)))
         have HFF':Hid ((left'.map (·.1)).Nodup/\∀k∈R.bQ.map (·.1),((f k&&decide (k≠k1))=true↔Value.int .i64 k∈left'.map (·.1))):=kH (by
          have hnd:=hpk.nodup_iff.1 HFF.out.1;rw[List.nodup_cons]at hnd;refine⟨hnd.2,fun k hk=>?_⟩;rw[aaF,decide_eq_true_eq,HFF.out.2 k hk,hpk.mem_iff,List.mem_cons];constructor
          ·rintro⟨h1|h1,h2⟩
           ·exact absurd (by injection h1) h2
           ·exact h1
          ·intro h1
           exact⟨.inr h1,fun e=>hnd.1 (by rw[<- e];exact h1)⟩)
         have HST:=kH hstep;have HUPD:=kH hupd;have HOW:=kH hown;have Ri:=kH hit9;have Lc:=kH hperm;have FD:=kH hn8;have TK:Hid (E.base=w.heap.size/\w.heap.size<=w9.heap.size):=kH ⟨HE.out.1,sw.out.size⟩;clear hmem hy hsp hio GR zP hown hupd hk1 hpk hfk hstep hc8 dP hn8 hixi hit9 hperm Vl hsz9;go_wp2_with fail
         obtain⟨go,hgo⟩:∃go:Nat,go=gk:=⟨_,rfl⟩
         subst hgo;obtain⟨wo,hwo⟩:∃wo:World,wo=wr:=⟨_,rfl⟩
         subst hwo;go_loopg [87] n8 (fun gk s87 wy=> ∃q2:Nat,s87= .int .i64 (q2:Int)/\q2+gk=n8/\Hid (aL wy E.base 3 1 (.slice A8 n8 c8) n8 (iE ((lx.take q2).map F++lx.drop q2)))/\Hid (az (fun g=>(Value.slice A8 n8 c8).ownBlock=some g) w9 wy))
         case atStart=>exact⟨0,rfl,by omega,by simpa using HOW,kH (az.refl _ _)⟩
         case round=>
          obtain⟨q2,rfl,hq2,HOy,Tx⟩:=hrel;have hmy:aZ kF wr ix (uH L):=HM9.out.since Tx.out (fun h1=>HM9.out.jf HOW.out h1);have HMYY:=kH hmy;by_cases hlt3:q2<n8
          ·have hlt3':(q2:Int)<(n8:Int):=by omega
           have hw3:IntKind.i64.wrap ((q2:Int)+1)=(q2:Int)+1:=IntWalk.i64_in _ (by omega);obtain⟨u,hu⟩:∃u,lx[q2]? =some u:=⟨_,aaH (by rw[FD.out];exact hlt3)⟩
           obtain⟨hs1,hs2⟩:=Ox (F:=F) hu;obtain⟨b,off,cap',hv',-,-,Vs,hbl,hcs'⟩:=HOy.out.form (by omega);simp only[Value.slice.injEq,true_and]at hv';obtain⟨rfl,rfl⟩:=hv';have cu:wr.cell? ⟨b,off+q2,none⟩=some (.int .i64 u):=hcs' q2 _ (by unfold iE;rw[List.getElem?_map,hs1];rfl)
           have fu:wr.frozen? ⟨b,off+q2,none⟩=false:=by
            obtain⟨cur,hc⟩:=HOy.out.obj b rfl;simp[World.frozen?,hc]
           have CX:=uj wr ix L HMYY.out u;rw[HF.out u]at CX;obtain⟨y,hy⟩:∃y,F u=y:=⟨_,rfl⟩
           rw[hy]at CX hs2;have hset:=HOy.out.set1 q2 hlt3 (.int .i64 y)
           have S9:(iE ((lx.take q2).map F++lx.drop q2)).set q2 (.int .i64 y)=iE ((lx.take (q2+1)).map F++lx.drop (q2+1)):=by
            rw[<- hs2];simp[iE,List.map_set]
           rw[S9]at hset;have Ai:=kH hset;have yC:Hid (az (fun g=>(Value.slice (some ⟨b,off,none⟩) n8 c8).ownBlock=some g) w9 (wr.setCell ⟨b,off+q2,none⟩ (.int .i64 y))):=kH (Tx.out.setCell (p:=⟨b,off+q2,none⟩) (.inl rfl) _);clear hs1 hs2 Vs hcs' hy hset S9 hu hmy;go_wp2_with fail
           go_roundg (gk - 1)
           case measure=>omega
           case rel=>exact⟨q2+1,by simp,by omega,Ai,yC⟩
          ·have Xr:q2=n8:=by omega
           subst Xr;have hge3:¬((q2:Int)<(q2:Int)):=by omega
           have Ai:Hid (aS E (eP t) { R with uses:=R.uses.map F,bQ:=zB F (fun j=>f j&&decide (j≠k1)) R.bQ } V4 wr):=kH (by
            rw[HST.out];refine HUPD.out (lx.map F) wr ?_ Tx.out;have:=HOy.out;rw[List.take_of_length_le (by rw[FD.out];exact aaD _),List.drop_eq_nil_of_le (by rw[FD.out];exact aaD _),List.append_nil]at this;rw[List.length_map,FD.out]
            exact this)
           have yC:Hid (mD kF wr vi it V4.vals left'):=kH (Ri.out.keep (Tx.out.block vi Ri.out.nY.lt (fun h1=>Ri.out.nY.jf HOW.out h1)) (Tx.out.block it (by obtain⟨_,_,_,_,h1⟩:=Ri.out.obj;exact(aaG.1 h1).1) (fun h1=>Ri.out.jf HOW.out h1)));have iA:Hid (Below w.heap.size w wr):=kH (sw.out.trans (Tx.out.toBelow TK.out.2 (fun g hg=>by have:=(HOW.out.lt g hg).1;rw[TK.out.1]at this;exact this)));clear hmy;go_wp2_with fail
           go_roundg (go - 1)
           case measure=>have h9:left.length=left'.length+1:=Lc.out.length_eq;omega
           case rel=>exact⟨left',fun j=>f j&&decide (j≠k1),by have h9:left.length=left'.length+1:=Lc.out.length_eq;omega,yC,Ai,HMYY,iA,HFF'⟩
end Go.Proofs.YtoepemlnlpamlaaGreat
