/- The law NamesStand holds: for every text and every number the law returns true, and its arguments read as before. No condition. Part 35: Res2. -/
import Derived.Test.YtoepemlnlpamlaaGreatStand34
set_option maxRecDepth 100000
set_option maxHeartbeats 4000000
namespace Go.Proofs.YtoepemlnlpamlaaGreat
open Go.RowKit
theorem VT(w:World)(k0:Int)(x0:ByteArray)(a0 z0:Int)(A:Option Addr)(n0 c:Nat):∃W1,
 (((((w.alloc (.cells #[.int .i64 k0,.string x0,.int .i64 a0,.int .i64 z0,.slice A n0 c] 24)).alloc (.map #[] 0)).alloc (.map #[] 0)).alloc (.map #[] 0)).alloc (.map #[] 0)).alloc (.cells #[.map (some (w.heap.size+1)),.map (some (w.heap.size+1+1)),.map (some (w.heap.size+1+1+1)),.slice none 0 0,.slice none 0 0,.map (some (w.heap.size+1+1+1+1)),.slice none 0 0,.int .i64 0,.int .i64 0] 75)=W1 /\
 bf ⟨w.heap.size,w.heap.size+1+1+1+1+1,w.heap.size+1,w.heap.size+1+1,w.heap.size+1+1+1,w.heap.size+1+1+1+1,none,0⟩ ⟨[],[],[]⟩ ⟨[],[],[],[],0,0⟩ ⟨none,0,none,0,[]⟩ W1 /\
 ak W1 w.heap.size 24 #[.int .i64 k0,.string x0,.int .i64 a0,.int .i64 z0,.slice A n0 c]/\Below w.heap.size w W1:=by
 refine⟨_,rfl,⟨?_,?_,?_,?_,?_,rfl,aP.nil _ _ _ _,aP.nil _ _ _ _,aP.nil _ _ _ _,⟨by simp;omega,by simp;omega⟩,⟨by simp;omega,by simp;omega,by simp⟩⟩,?_,?_⟩
 ·have:=ak.new (((((w.alloc (.cells #[.int .i64 k0,.string x0,.int .i64 a0,.int .i64 z0,.slice A n0 c] 24)).alloc (.map #[] 0)).alloc (.map #[] 0)).alloc (.map #[] 0)).alloc (.map #[] 0)) 75 #[.map (some (w.heap.size+1)),.map (some (w.heap.size+1+1)),.map (some (w.heap.size+1+1+1)),.slice none 0 0,.slice none 0 0,.map (some (w.heap.size+1+1+1+1)),.slice none 0 0,.int .i64 0,.int .i64 0]
  simpa using this
 ·have:=((((aY.made (KK:=jB) (w.alloc (.cells #[.int .i64 k0,.string x0,.int .i64 a0,.int .i64 z0,.slice A n0 c] 24))).alloc (.map #[] 0)).alloc (.map #[] 0)).alloc (.map #[] 0)).alloc (.cells #[.map (some (w.heap.size+1)),.map (some (w.heap.size+1+1)),.map (some (w.heap.size+1+1+1)),.slice none 0 0,.slice none 0 0,.map (some (w.heap.size+1+1+1+1)),.slice none 0 0,.int .i64 0,.int .i64 0] 75)
  simpa [jV] using this
 ·have:=(((aY.made (KK:=jB) ((w.alloc (.cells #[.int .i64 k0,.string x0,.int .i64 a0,.int .i64 z0,.slice A n0 c] 24)).alloc (.map #[] 0))).alloc (.map #[] 0)).alloc (.map #[] 0)).alloc (.cells #[.map (some (w.heap.size+1)),.map (some (w.heap.size+1+1)),.map (some (w.heap.size+1+1+1)),.slice none 0 0,.slice none 0 0,.map (some (w.heap.size+1+1+1+1)),.slice none 0 0,.int .i64 0,.int .i64 0] 75)
  simpa [jV] using this
 ·have:=((aY.made (KK:=iN) (((w.alloc (.cells #[.int .i64 k0,.string x0,.int .i64 a0,.int .i64 z0,.slice A n0 c] 24)).alloc (.map #[] 0)).alloc (.map #[] 0))).alloc (.map #[] 0)).alloc (.cells #[.map (some (w.heap.size+1)),.map (some (w.heap.size+1+1)),.map (some (w.heap.size+1+1+1)),.slice none 0 0,.slice none 0 0,.map (some (w.heap.size+1+1+1+1)),.slice none 0 0,.int .i64 0,.int .i64 0] 75)
  simpa [uN] using this
 ·have:=(aY.made (KK:=iN) ((((w.alloc (.cells #[.int .i64 k0,.string x0,.int .i64 a0,.int .i64 z0,.slice A n0 c] 24)).alloc (.map #[] 0)).alloc (.map #[] 0)).alloc (.map #[] 0))).alloc (.cells #[.map (some (w.heap.size+1)),.map (some (w.heap.size+1+1)),.map (some (w.heap.size+1+1+1)),.slice none 0 0,.slice none 0 0,.map (some (w.heap.size+1+1+1+1)),.slice none 0 0,.int .i64 0,.int .i64 0] 75)
  simpa using this
 ·exact((((ak.new w _ _).alloc _).alloc _).alloc _ |>.alloc _).alloc _
 ·exact((((((Below.refl _ w).alloc (aab _) _).alloc (by simp) _).alloc (by simp;omega) _).alloc (by simp;omega) _).alloc (by simp;omega) _).alloc (by simp;omega) _
theorem Ms:∀(a:List Dc) (d:Dc) (i:Nat) (l:List (Int×Int)),yQ (a++[d]) i l=dK (yQ a i l) d.node ((i+a.length:Nat):Int)
 | [],d,i,l=>rfl
 | x::a,d,i,l=>by
  rw[List.cons_append,yQ,Ms a d (i+1) _,yQ,aao];congr 2
  omega
def Qv(t:aa)(w:World)(e:Ending)(w':World):Prop:=∃E V,e= .returned (.pointer (some ⟨E.rp,0,none⟩))/\E.base=w.heap.size/\bf E (fG t) (cK t) V w'/\Below w.heap.size w w'
theorem Gs(t:aa)(A:Option Addr)(c:Nat)(w:World)(hv:qx true t=true)(hN:ai t<=1000000)(hcap:t.kids.length<=c)(hk:aK w w.heap.size A 0 t.kids):
 Calls Tryz.prog 41 #[bB t A c] w (Qv t w):=by
 obtain⟨k0,x0,a0,z0,n0,-,-,-,-,hn0,ji⟩:=gD t A c;obtain⟨i0,hi0,hz0,hz1,hz2⟩:=info_parts Ag;obtain⟨W1,hW1,h1,hnb,hb1⟩:=VT w k0 x0 a0 z0 A n0 c;have hcnt:=Fx t A c W1 (by omega) (aK.mono hb1.size _ _ _ (aK.below hb1 (aab _) _ _ _ hk));rw[ji]at hcnt⊢;obtain⟨N,hNN⟩:∃N,ai t=N:=⟨_,rfl⟩
 rw[hNN]at hcnt hN;have hmm:=@run_makeMap Tryz.prog;have Em:=kH hcnt;have QH:=kH hNN;have H1:=kH h1;have lV:=kH hnb;have HB1:=kH hb1;have Bl:=kH ji;have HVO:=kH hv;have HCAP:=kH hcap;have HK:=kH hk;have m0:=hnb.cell 0;have m1:=hnb.cell 1;have m2:=hnb.cell 2;have m3:=hnb.cell 3;have m4:=hnb.cell 4;have lm:=hnb.lt;clear hcnt hNN h1 hnb hb1 ji hv hcap hk hn0;go_enter Tryz.func41,Tryz.ntmps41
 go_wp2_with fail
 clear hW1 m0 m1 m2 m3 m4 lm;refine Em.out.mono ?_;rintro e2 w2 ⟨rfl,hb2⟩;obtain⟨rp,hrp⟩:∃q,w.heap.size+1+1+1+1+1=q:=⟨_,rfl⟩
 rw[hrp]at H1⊢;obtain⟨vi,J5⟩:∃q,w.heap.size+1+1+1+1=q:=⟨_,rfl⟩
 rw[J5]at H1⊢;obtain⟨kk,hkk⟩:∃q,w.heap.size+1+1+1=q:=⟨_,rfl⟩
 rw[hkk]at H1⊢;obtain⟨ff,hff⟩:∃q,w.heap.size+1+1=q:=⟨_,rfl⟩
 rw[hff]at H1⊢;obtain⟨gg,hgg⟩:∃q,w.heap.size+1=q:=⟨_,rfl⟩
 rw[hgg]at H1⊢;have HAD:Hid (w.heap.size+1=gg/\gg+1=ff/\ff+1=kk/\kk+1=vi/\vi+1=rp):=kH (by omega);have HR2:Hid (bf ⟨w.heap.size,rp,gg,ff,kk,vi,none,0⟩ ⟨[],[],[]⟩ ⟨[],List.replicate 0 (-1),[],[],0,0⟩ ⟨none,0,none,0,[]⟩ w2):=kH (H1.out.below hb2);have HB2:Hid (Below w.heap.size w w2):=kH (HB1.out.trans (hb2.mono HB1.out.size));have vG:Hid (ak w2 w.heap.size 24 #[.int .i64 k0,.string x0,.int .i64 a0,.int .i64 z0,.slice A n0 c]):=kH (lV.out.below hb2 lV.out.lt);clear hrp J5 hkk hff hgg hb2 Em H1 HB1 lV;go_wp2_with fail
 go_loopg [21] N (fun gk VP wr=> ∃(j:Nat) (A1:Option Addr) (c1:Nat),VP= .int .i64 (j:Int)/\j+gk=N/\Hid (bf ⟨w.heap.size,rp,gg,ff,kk,vi,A1,c1⟩ ⟨[],[],[]⟩ ⟨[],List.replicate j (-1),[],[],0,0⟩ ⟨none,0,none,0,[]⟩ wr)/\Hid (Below w.heap.size w wr)/\Hid (ak wr w.heap.size 24 #[.int .i64 k0,.string x0,.int .i64 a0,.int .i64 z0,.slice A n0 c]))
 case atStart=>exact⟨0,none,0,rfl,by omega,HR2,HB2,vG⟩
 case round=>
  obtain⟨j,A1,c1,rfl,hj,HR,HB,lV⟩:=hrel;by_cases hlt:j<N
  ·have hlt':(j:Int)<(N:Int):=by omega
   have hw:IntKind.i64.wrap ((j:Int)+1)=(j:Int)+1:=IntWalk.i64_in _ (by omega);have c4:wr.cell? ⟨rp,4,none⟩=some (.slice A1 j c1):=by have:=HR.out.blk.cell 4;simpa using this
   have lr:rp<wr.heap.size:=HR.out.blk.lt;have ho:=HR.out.us;simp only[List.length_replicate]at ho;have HO:=kH ho;clear ho;go_wp2_with (at_builtin;go_must (refine dP _ rfl (.tmp 27) (.tmp 28) _ rfl w.heap.size 3 i0 _ 1 8 Tryz.underlying28 hi0 hz0 hz1 hz2 rfl (.slice A1 j c1) j (jN (List.replicate j (-1))) rfl (HO.out.alloc _) ⟨wr.heap.size,0,none⟩ 1 1 [.int .i64 (-1)] rfl rfl (Db _ _ _ (by go_simp)) (by simp[Value.oneCell']) (by simp only[maxLen];omega) (by omega) (by have:=HB.out.size;simp;omega) ?_);intro vn w6 hown hgrow hat;obtain⟨A6,c6,eG,-,-⟩:=hown.shape;subst eG;have HOWN:=kH hown;have pz:=kH hgrow;have BH:=ak.grown (ak.alloc HR.out.blk _) hgrow (fun e1=>HO.out.fe HR.out.blk (by decide) e1.symm);have q4:=BH.cell 4;have q5:=BH.frozen 4;have q6:=BH.lt;clear hown hgrow hat BH)
   have hal:=HR.out.below (ae wr (.cells #[.int .i64 (-1)] 3));have hpu:=hal.pushU rfl rfl (-1) (A3:=A6) (c3:=c6) (by simp only[List.length_replicate];exact HOWN.out) (by simp only[List.length_replicate];exact pz.out);have hrs:List.replicate j (-1:Int)++[-1]=List.replicate (j+1) (-1):=by rw[List.replicate_succ']
   have YA:=hpu.1;simp only[hrs,List.length_replicate]at YA;have HP:=kH YA
   have HPB:Hid (Below w.heap.size w (w6.setCell ⟨rp,4,none⟩ (.slice A6 (j+1) c6))):=kH (by
    have h5:=hpu.2;simp only[List.length_replicate]at h5;have h6:Below w.heap.size (wr.alloc (.cells #[.int .i64 (-1)] 3)) (w6.setCell ⟨rp,4,none⟩ (.slice A6 (j+1) c6)):=h5.toBelow (by have:=HB.out.size;simp;omega) (fun g hg=>hg)
    exact(HB.out.trans ((ae wr (.cells #[.int .i64 (-1)] 3)).mono HB.out.size)).trans h6)
   have QG:Hid (ak (w6.setCell ⟨rp,4,none⟩ (.slice A6 (j+1) c6)) w.heap.size 24 #[.int .i64 k0,.string x0,.int .i64 a0,.int .i64 z0,.slice A n0 c]):=kH
    (((lV.out.alloc (.cells #[.int .i64 (-1)] 3)).grown pz.out (fun e1=>HO.out.fe lV.out (by decide) e1.symm)).far (p:=⟨rp,4,none⟩) (by have:=HAD.out;show w.heap.size≠rp;omega) _)
   clear hal hpu YA hrs;go_roundg (gk - 1)
   case measure=>omega
   case rel=>exact⟨j+1,A6,c6,by simp,by omega,HP,HPB,QG⟩
  ·have hjN:j=N:=by omega
   subst hjN;have hge:¬((j:Int)<(j:Int)):=by omega
   have m0:=lV.out.cell 0;have m1:=lV.out.cell 1;have m2:=lV.out.cell 2;have m3:=lV.out.cell 3;have m4:=lV.out.cell 4;have lm:=lV.out.lt;have YP:=Ro rp gg ff kk w.heap.size _ _ _ _ _ _ wr HR.out.blk ⟨HR.out.gl,HR.out.fl,HR.out.kn⟩ (by have:=HAD.out;omega) (by have:=HAD.out;have:=HB.out.size;omega) t A c (by rw[QH.out];omega) (aK.below HB.out (aab _) _ _ _ HK.out);rw[Bl.out]at YP;have HCO:=kH YP;clear YP;go_wp2_with fail
   clear m0 m1 m2 m3 m4 lm;refine HCO.out.mono ?_;rintro e3 w3 ⟨rfl,hc3,hs3⟩;have HR3:=kH (HR.out.collected hs3 hc3);have Jk:=kH (lV.out.since hs3 (by have:=HAD.out;omega));have HB3:Hid (Below w.heap.size w w3):=kH (HB.out.trans (hs3.toBelow HB.out.size (fun g hg=>by have:=HAD.out;omega)));have m0:=Jk.out.cell 0;have m1:=Jk.out.cell 1;have m2:=Jk.out.cell 2;have m3:=Jk.out.cell 3;have m4:=Jk.out.cell 4;have lm:=Jk.out.lt;obtain⟨r0,hr0⟩:∃r0:RS,(⟨[],List.replicate j (-1),[],[],0,0⟩:RS)=r0:=⟨_,rfl⟩
   have hrb:RB r0 [] (ai t):=by
    rw[<- hr0,QH.out];exact⟨aab _,aab _,aab _,(fun x hx=>by cases hx),(by simp),(by simpa using hN)⟩
   obtain⟨E,hE⟩:∃E:RC,(⟨w.heap.size,rp,gg,ff,kk,vi,A1,c1⟩:RC)=E:=⟨_,rfl⟩
   have Ea:E.base=w.heap.size:=by rw[<- hE]
   have hEr:E.rp=rp:=by rw[<- hE]
   rw[hr0,hE]at HR3;have Ah:=VG E (fG t) w.heap.size (by rw[Ea];exact aab _) t false [] none [] r0 _ w3 A c HR3.out ⟨rfl,rfl⟩ ⟨List.nodup_nil,fun m hm=>by cases hm⟩ (aK.below HB3.out (aab _) _ _ _ HK.out) HCAP.out (by rw[Ea];exact HB3.out.size) HVO.out hrb
   have hres:cK t= { (aL (fG t) false t [] r0).1 with uses:=(aL (fG t) false t [] r0).1.uses.map (nN (aL (fG t) false t [] r0).1.ds),bH:=(aL (fG t) false t [] r0).1.bH.map fun x=>(x.1,x.2.map (nN (aL (fG t) false t [] r0).1.ds)) }:=by
    unfold cK;rw[QH.out,hr0]
   have J6:=CR (fG t) t false [] r0;have YE:=Lm (fG t) t false [] r0;have Pb:=j5 (fG t) t false [] r0;have hkeys:=Tn (fG t) t false [] r0 (by rw[<- hr0];exact List.nodup_nil);obtain⟨R,hR⟩:∃R,(aL (fG t) false t [] r0).1=R:=⟨_,rfl⟩
   rw[hR]at Ah hres J6 YE Pb hkeys;rw[QH.out]at YE;have hr0n:r0.next=0:=by rw[<- hr0]
   have hnd:R.ds.length<=1000000:=by
    have h1:=J6.ds;have h2:r0.ds.length=0:=by rw[<- hr0];rfl
    omega
   have vO:R.aR.length<=1000000:=by
    have h1:=J6.aR;have h2:r0.aR.length=0:=by rw[<- hr0];rfl
    omega
   have hnu:R.uses.length=j:=by rw[J6.CU,<- hr0];simp
   have hrise:xO R.aR:=by
    obtain⟨l,e1,e2,-⟩:=Pb.aR;rw[show r0.aR=[] by rw[<- hr0],List.nil_append]at e1;rw[e1];exact e2
   rw[Bl.out,hEr]at Ah;have HVI:=kH Ah;have aV:=kH hres;have HKEYS:=kH hkeys;have HRISE:=kH hrise;have mD:=kH hnd;have uf:=kH vO;have uJ:=kH hnu;have HE:Hid (E.base=w.heap.size/\E.rp=rp/\E.vi=vi):=kH ⟨Ea,hEr,by rw[<- hE]⟩;clear Ah hres hkeys hrise J6 YE Pb hrb hR hr0n hnd vO hnu hE Ea hEr hr0 HR3 HCO;go_wp2_with fail
   clear m0 m1 m2 m3 m4 lm;refine HVI.out.mono ?_;rintro e4 w4 ⟨rfl,V4,h4,-,k4⟩
   have pK:Hid (Below w.heap.size w w4):=kH (by
    have:=KX.low k4 (by rw[HE.out.1];exact HB3.out.size);rw[HE.out.1]at this
    exact HB3.out.trans this)
   have H4:=kH h4;clear h4 k4 HVI Jk HB3 lV HB HR;have c3:w4.cell? ⟨rp,3,none⟩=some (.slice V4.dA R.ds.length V4.dc):=by have:=H4.out.blk.cell 3;rw[HE.out.2.1]at this;exact this
   have lr4:rp<w4.heap.size:=by have:=H4.out.blk.lt;rw[HE.out.2.1]at this;exact this
   obtain⟨nd,hnd⟩:∃q,R.ds.length=q:=⟨_,rfl⟩
   rw[hnd]at c3;have HNDD:=kH hnd;obtain⟨dA,Pv⟩:∃q,V4.dA=q:=⟨_,rfl⟩
   rw[Pv]at c3;have HDA:=kH Pv;have hndm:nd<=1000000:=by rw[<- hnd];exact mD.out
   clear hnd Pv;go_wp2_with (refine zQ (KK:=iN) _ rfl _ _ _ 71 rfl 3 3 Tryz.underlying71 Tryz.underlying3 w4.heap.size [] (-1) (.int .i64 (-1)) rfl rfl rfl (aY.made w4) (ae w4 _) (aab _) ?_;intro w5 iH hb5;have d3:w5.cell? ⟨rp,3,none⟩=some (.slice dA nd V4.dc):=(hb5.cell (p:=⟨rp,3,none⟩) lr4).trans c3;have HM5:=kH iH;have fT:=kH hb5;clear iH hb5)
   clear c3 d3 hmm;have HIX:Hid (w.heap.size<=w4.heap.size):=kH pK.out.size;obtain⟨ix,hix⟩:∃q,w4.heap.size=q:=⟨_,rfl⟩
   rw[hix]at HM5 fT HIX⊢;have ZB:=kH hix;clear hix;go_loopg [46] nd (fun gk s46 wr=> ∃i:Nat,s46= .int .i64 (i:Int)/\i+gk=nd/\Hid (aY iN wr ix (uN (yQ (R.ds.take i) 0 [(-1,-1)])))/\Hid (Below ix w4 wr))
   case atStart=>exact⟨0,rfl,by omega,by have:=HM5.out;rw[List.take_zero];exact kH this,fT⟩
   case round=>
    obtain⟨i,rfl,hi,HM,XN⟩:=hrel;by_cases hlt:i<nd
    ·have hlt':(i:Int)<(nd:Int):=by omega
     have hw:IntKind.i64.wrap ((i:Int)+1)=(i:Int)+1:=IntWalk.i64_in _ (by omega);obtain⟨d,hd⟩:∃d,R.ds[i]? =some d:=⟨_,aaf (by rw[HNDD.out];exact hlt)⟩
     have hb4:Below w4.heap.size w4 wr:=by rw[ZB.out];exact XN.out
     have hrow:=(H4.out.ds.below hb4 (fun g hg=>(H4.out.ds.lt g hg).2)).rowAt (cells:=kS) (l:=R.ds) rfl rfl (fun c _=>rfl) rfl;rw[HDA.out]at hrow;obtain⟨b,off,hA,hbl,hcs⟩:=hrow i d hd;subst hA;obtain⟨dk,dn,dv,dw⟩:=d;have t0:wr.cell? ⟨b,off+i*4,none⟩=some (.int .i64 dk):=by simpa using hcs 0 _ rfl
     have t1:wr.cell? ⟨b,off+i*4+1,none⟩=some (.string dn):=by simpa using hcs 1 _ rfl
     have t2:wr.cell? ⟨b,off+i*4+2,none⟩=some (.int .i64 dv):=by simpa using hcs 2 _ rfl
     have t3:wr.cell? ⟨b,off+i*4+3,none⟩=some (.int .i64 dw):=by simpa using hcs 3 _ rfl
     clear hcs hrow hb4;obtain⟨w7,hrun,jd,vP,hz7⟩:=bU (P:=Tryz.prog) (KK:=iN) (t:=71) (kt:=3) (et:=3) Tryz.underlying71 Tryz.underlying3 (HM.out.alloc (.cells #[.int .i64 dk,.string dn,.int .i64 dv,.int .i64 dw] 49)) dv (.int .i64 (i:Int));change (Instr.mapUpdate 71 (.map (some ix)) (.int .i64 dv) (.int .i64 (i:Int))).run Tryz.prog (wr.alloc (.cells #[.int .i64 dk,.string dn,.int .i64 dv,.int .i64 dw] 49))=_ at hrun;rw[Od]at jd;have hs7:aA (fun g=>g=ix) (wr.alloc (.cells #[.int .i64 dk,.string dn,.int .i64 dv,.int .i64 dw] 49)) w7:=(aA.refl _ _).grown vP (fun k hk=>by cases hk;exact .inl rfl);have hixw:ix<=wr.heap.size:=by have:=XN.out.size;rw[ZB.out]at this;exact this
     have gT:Hid (Below ix w4 w7):=kH ((XN.out.trans ((ae wr _).mono hixw)).trans (hs7.toBelow (by simp;omega) (fun g hg=>by omega)))
     have HM7:Hid (aY iN w7 ix (uN (yQ (R.ds.take (i+1)) 0 [(-1,-1)]))):=kH (by
      rw[yl hd,Ms]
      have:0+(R.ds.take i).length=i:=by
       have:=(aah.1 hd).1;simp;omega
      rw[this]
      exact jd)
     clear jd vP hz7 hs7 hixw hd;go_wp2_with fail
     go_roundg (gk - 1)
     case measure=>omega
     case rel=>exact⟨i+1,by simp,by omega,HM7,gT⟩
    ·have hin:i=nd:=by omega
     subst hin;have hge:¬((i:Int)<(i:Int)):=by omega
     have hb4:Below w4.heap.size w4 wr:=by rw[ZB.out];exact XN.out
     obtain⟨L,hL⟩:∃L,yQ R.ds 0 [(-1,-1)]=L:=⟨_,rfl⟩
     have HF:Hid (∀u,(bG L u).getD 0=nN R.ds u):=kH (fun u=>by rw[<- hL];rfl)
     have HML:Hid (aY iN wr ix (uN L)):=kH (by
      have:=HM.out;rw[List.take_of_length_le (by rw[HNDD.out];exact aab _),hL]at this
      exact this)
     obtain⟨F,hF⟩:∃F:Int->Int,nN R.ds=F:=⟨_,rfl⟩
     rw[hF]at HF aV;have HRU:Hid (bf E (fG t) { R with uses:=(R.uses.take 0).map F++R.uses.drop 0 } V4 wr):=kH (H4.out.below hb4);have oD:Hid (Below w.heap.size w wr):=kH (pK.out.trans (hb4.mono pK.out.size));obtain⟨uA,huA⟩:∃q,E.uA=q:=⟨_,rfl⟩
     obtain⟨uc,huc⟩:∃q,E.uc=q:=⟨_,rfl⟩
     have c4:wr.cell? ⟨rp,4,none⟩=some (.slice uA j uc):=by
      have:=(H4.out.below hb4).blk.cell 4;rw[HE.out.2.1]at this;rw[<- huA,<- huc,<- uJ.out];exact this
     have lr:rp<wr.heap.size:=by have:=(H4.out.below hb4).blk.lt;rw[HE.out.2.1]at this;exact this
     have Xv:Hid (E.uA=uA/\E.uc=uc):=kH ⟨huA,huc⟩;clear hL hF hb4 huA huc HM XN;go_wp2_with fail
     clear c4;go_loopg [61] j (fun gk s61 wr=> ∃q:Nat,s61= .int .i64 (q:Int)/\q+gk=j/\Hid (bf E (fG t) { R with uses:=(R.uses.take q).map F++R.uses.drop q } V4 wr)/\Hid (aY iN wr ix (uN L))/\Hid (Below w.heap.size w wr))
     case atStart=>exact⟨0,rfl,by omega,HRU,HML,oD⟩
     case round=>
      obtain⟨q,rfl,hq,HR,HMX,HB⟩:=hrel;by_cases hlt2:q<j
      ·have hlt2':(q:Int)<(j:Int):=by omega
       have hw2:IntKind.i64.wrap ((q:Int)+1)=(q:Int)+1:=IntWalk.i64_in _ (by omega);obtain⟨u,hu⟩:∃u,R.uses[q]? =some u:=⟨_,aaf (by rw[uJ.out];exact hlt2)⟩
       obtain⟨hs1,hs2⟩:=N7 (F:=F) hu;have hdr:=HR.out.below ((Below.refl _ wr).drew);have hll:((R.uses.take q).map F++R.uses.drop q).length=j:=by have:=uJ.out;simp;omega
       obtain⟨b,off,hA,hbl,-,hfz,hset⟩:=hdr.Js q (by show q<((R.uses.take q).map F++R.uses.drop q).length;rw[hll];exact hlt2) (fun _=>False);rw[Xv.out.1]at hA;subst hA;obtain⟨b',off',cap',hv',-,-,UQ,-,hcs'⟩:=HR.out.us.form (by show 0<((R.uses.take q).map F++R.uses.drop q).length;rw[hll];omega);have hA':some (⟨b,off,none⟩:Addr)=some ⟨b',off',none⟩:=by rw[<- Xv.out.1];injection hv'
       simp only[aag,Addr.mk.injEq,and_true]at hA';obtain⟨rfl,rfl⟩:=hA';have cu:wr.cell? ⟨b,off+q,none⟩=some (.int .i64 u):=hcs' q _ (by show(jN ((R.uses.take q).map F++R.uses.drop q))[q]? =_;unfold jN;rw[List.getElem?_map,hs1];rfl);have fu:wr.frozen? ⟨b,off+q,none⟩=false:=hfz
       have c4:wr.cell? ⟨rp,4,none⟩=some (.slice (some ⟨b,off,none⟩) j uc):=by
        have:=HR.out.blk.cell 4;rw[HE.out.2.1]at this;rw[<- Xv.out.1,<- Xv.out.2,<- hll];exact this
       have lr2:rp<wr.heap.size:=by have:=HR.out.blk.lt;rw[HE.out.2.1]at this;exact this
       have lb2:b<wr.heap.size:=hbl;have Dj:=uu wr.drew ix L HMX.out.drew u;rw[HF.out u]at Dj;have hixb:ix≠b:=fun e1=>HMX.out.jy HR.out.us (by rw[Xv.out.1];show some b=some ix;rw[e1])
       have QF:=kH (hset (F u));have HS2:=kH hs2;have Hg:=kH UQ;obtain⟨y,hy⟩:∃y,F u=y:=⟨_,rfl⟩
       rw[hy]at QF HS2 Dj;have hq0:q<j:=hlt2;clear hs1 hs2 hdr hset hcs' hv' UQ hu hy hll hfz hbl;go_wp2_with fail
       refine gN (fun w'=>w'.cell? ⟨rp,4,none⟩=some (.slice (some ⟨b,off,none⟩) j uc)/\(Instr.lookup 71 (.map (some ix)) (.int .i64 u) false).run Tryz.prog w'= .ok (.int .i64 y) w') [9] [true,true,true,true,true,true,true,true,true,false] (by kernel_rfl) (by kernel_rfl) rfl (by kernel_rfl) ?_;have hS0:wr.drew.cell? ⟨rp,4,none⟩=some (.slice (some ⟨b,off,none⟩) j uc)/\(Instr.lookup 71 (.map (some ix)) (.int .i64 u) false).run Tryz.prog wr.drew= .ok (.int .i64 y) wr.drew:=⟨c4,Dj⟩
       iterate 9(refine jL rfl hS0 (by intro w' hSw;obtain⟨hs1,hs2⟩:=hSw;go_simp;rfl) ?_;simp only[Act.put,sA,sZ,sC])
       refine j4 (w':=wr.drew.setCell ⟨b,off+q,none⟩ (.int .i64 y)) rfl (by go_simp) (by simp) ?_;refine kV ?_;simp only[Act.put]
       have Bh:Hid (bf E (fG t) { R with uses:=(R.uses.take (q+1)).map F++R.uses.drop (q+1) } V4 (wr.drew.setCell ⟨b,off+q,none⟩ (.int .i64 y))):=kH (by
        have:=QF.out.1;rw[HS2.out]at this
        exact this)
       have yJ:Hid (aY iN (wr.drew.setCell ⟨b,off+q,none⟩ (.int .i64 y)) ix (uN L)):=kH (HMX.out.drew.setCell (p:=⟨b,off+q,none⟩) hixb _);have gW:Hid (Below w.heap.size w (wr.drew.setCell ⟨b,off+q,none⟩ (.int .i64 y))):=kH ((HB.out.drew).setCell (p:=⟨b,off+q,none⟩) (by have:=Hg.out;rw[HE.out.1]at this;exact this) _);clear hS0 Dj c4 cu fu QF HS2;go_wp2_with fail
       go_roundg (gk - 1)
       case measure=>omega
       case rel=>exact⟨q+1,by simp,by omega,Bh,yJ,gW⟩
      ·have hqj:q=j:=by omega
       subst hqj;have hge2:¬((q:Int)<(q:Int)):=by omega
       have c5:wr.cell? ⟨rp,5,none⟩=some (.map (some vi)):=by
        have:=HR.out.blk.cell 5;rw[HE.out.2.1,HE.out.2.2]at this;exact this
       have lr2:rp<wr.heap.size:=by have:=HR.out.blk.lt;rw[HE.out.2.1]at this;exact this
       have J5:=HR.out.vi;rw[HE.out.2.2]at J5;have Ka:V4.vals.map (·.1)=R.bH.map (·.1):=fM.keys HR.out.bH;obtain⟨w8,hr8,hit8,fJ,O0⟩:=zV (P:=Tryz.prog) (t:=72) (kt:=3) (et:=28) Tryz.underlying72 J5;have HIT8:=kH hit8
       have Ej:Hid (bf E (fG t) { R with uses:=R.uses.map F,bH:=zR F (fun _=>true) R.bH } V4 w8):=kH (by
        have:=HR.out.below fJ;rw[List.take_of_length_le (by rw[uJ.out];exact aab _),List.drop_eq_nil_of_le (by rw[uJ.out];exact aab _),List.append_nil]at this;rw[Tv]
        exact this)
       have HM8:Hid (aY iN w8 ix (uN L)):=kH (HMX.out.uH fJ);have rH:Hid (Below w.heap.size w w8):=kH (HB.out.trans (fJ.mono HB.out.size));have HKV:=kH Ka;have hvil:=J5.lt;have HWS:Hid (w.heap.size<=wr.heap.size):=kH HB.out.size;clear J5 Ka hit8 fJ O0;go_wp2_with fail
       obtain⟨it,yU⟩:∃it,wr.heap.size=it:=⟨_,rfl⟩
       rw[yU]at HIT8 hvil HWS⊢;clear c5 yU;go_loopg [] R.bH.length (fun gk wx=> ∃(left:List (Value×Value)) (f:Int->Bool),gk=left.length/\Hid (mU iN wx vi it V4.vals left)/\Hid (bf E (fG t) { R with uses:=R.uses.map F,bH:=zR F f R.bH } V4 wx)/\Hid (aY iN wx ix (uN L))/\Hid (Below w.heap.size w wx)/\Hid ((left.map (·.1)).Nodup/\∀k∈R.bH.map (·.1),(f k=true↔Value.int .i64 k∈left.map (·.1))))
       case atStart=>
        refine⟨_,fun _=>true,?_,HIT8,Ej,HM8,rH,kH ⟨?_,fun k hk=>?_⟩⟩
        ·have:=congrArg List.length HKV.out
         simp at this;simp;omega
        ·rw[List.map_map]
         have e1:(V4.vals.map ((fun x=>x.1) ∘ fun x:Int×Value=>(iN.qw x.1,x.2)))=(V4.vals.map (·.1)).map (fun k=>Value.int .i64 k):=by rw[List.map_map];rfl
         rw[e1,HKV.out];exact List.Pairwise.map _ (fun a b hab e2=>hab (by injection e2)) HKEYS.out
        ·rw[<- HKV.out]at hk
         obtain⟨y,hy,rfl⟩:=List.mem_map.1 hk;exact⟨fun _=>List.mem_map.2 ⟨_,List.mem_map.2 ⟨y,hy,rfl⟩,rfl⟩,fun _=>rfl⟩
       case round=>
        obtain⟨left,f,hgl,HI,ig,HMY,Ni,HFF⟩:=hrel;rcases BU (P:=Tryz.prog) 0 HI.out (by omega) with⟨hl0,hnx⟩| ⟨kv,vv,left',w9,hperm,hmem,hnx,hit9,UF,hsz9,hent⟩
        ·subst hl0
         have hvp:zR F f R.bH=R.bH.map fun x=>(x.1,x.2.map F):=XU (fun k hk=>by
          have h:=HFF.out.2 k hk
          cases hf:f k with
          | false=>rfl
          | true=>exact absurd (h.1 hf) (by simp))
         have hrow:=ig.out.ps.rowAt (cells:=iR) (l:=R.aR) rfl rfl (fun c _=>rfl) rfl;obtain⟨np,vO⟩:∃q,R.aR.length=q:=⟨_,rfl⟩
         have c6:wr.cell? ⟨rp,6,none⟩=some (.slice V4.pA np V4.pc):=by
          have:=ig.out.blk.cell 6;rw[HE.out.2.1]at this;rw[<- vO];exact this
         have qF:rp<wr.heap.size:=by have:=ig.out.blk.lt;rw[HE.out.2.1]at this;exact this
         have hsrt:=Li R.aR V4.pA np V4.pc wr vO hrow HRISE.out (by rw[<- vO];exact uf.out);have HSRT:=kH hsrt;have HVP:=kH hvp;clear hvp hrow vO hsrt;go_wp2_with fail
         refine HSRT.out.mono ?_;rintro e10 bJ ⟨rfl,jW⟩;have bC:Hid (Qv t w (.returned (.pointer (some ⟨rp,0,none⟩))) bJ):=kH ⟨E,V4,by rw[HE.out.2.1],HE.out.1,by rw[aV.out,<- HVP.out];exact ig.out.below jW,Ni.out.trans (jW.mono Ni.out.size)⟩;clear jW c6;go_wp2_with fail
         go_ret
         exact bC.out
        ·obtain⟨y,hy,he⟩:=List.mem_map.1 hmem
         obtain⟨k1,v0⟩:=y;simp only[Prod.mk.injEq]at he;obtain⟨rfl,rfl⟩:=he;obtain⟨v1,v2,hsp⟩:=List.append_of_mem hy;obtain⟨oa,ob,oc,od,hio⟩:=HI.out.obj;have GU:=ig.out.sinceO UF (fun g cs t fr hg e=>by subst e;rw[hio]at hg;cases hg) (fun g es ck hg e=>by subst e;rw[hio]at hg;cases hg);obtain⟨l1,lx,l2,Ah,hown,hupd⟩:=GU.setVis hsp;have hk1:k1∈R.bH.map (·.1):=by rw[<- HKV.out];exact List.mem_map.2 ⟨_,hy,rfl⟩
         have hpk:(left.map (·.1)).Perm (Value.int .i64 k1::left'.map (·.1)):=hperm.map (·.1);have hfk:f k1=true:=(HFF.out.2 k1 hk1).2 (hpk.mem_iff.2 (by simp));have hstep:=VH HKEYS.out Ah hfk;obtain⟨A8,c8,eX,hc8,ed⟩:=hown.shape;obtain⟨n8,hn8⟩:∃q,lx.length=q:=⟨_,rfl⟩
         rw[hn8]at eX hown hc8;subst eX;have hn8m:n8<=maxLen:=aac hc8 ed;simp only[maxLen]at hn8m
         have hixi:ix≠it:=fun e=>by
          obtain⟨es,ck,ho⟩:=HMY.out.isMap;rw[e,hio]at ho;cases ho
         have HM9:Hid (aY iN w9 ix (uN L)):=kH (HMY.out.since UF hixi);have vT:Hid (Below w.heap.size w w9):=kH (Ni.out.trans (UF.toBelow Ni.out.size (fun g e=>by rw[e];exact HWS.out)))
         have HFF':Hid ((left'.map (·.1)).Nodup/\∀k∈R.bH.map (·.1),((f k&&decide (k≠k1))=true↔Value.int .i64 k∈left'.map (·.1))):=kH (by
          have hnd:=hpk.nodup_iff.1 HFF.out.1;rw[List.nodup_cons]at hnd;refine⟨hnd.2,fun k hk=>?_⟩;rw[aad,decide_eq_true_eq,HFF.out.2 k hk,hpk.mem_iff,List.mem_cons];constructor
          ·rintro⟨h1|h1,h2⟩
           ·exact absurd (by injection h1) h2
           ·exact h1
          ·intro h1
           exact⟨.inr h1,fun e=>hnd.1 (by rw[<- e];exact h1)⟩)
         have HST:=kH hstep;have HUPD:=kH hupd;have HOW:=kH hown;have QN:=kH hit9;have KU:=kH hperm;have FP:=kH hn8;have Ta:Hid (E.base=w.heap.size/\w.heap.size<=w9.heap.size):=kH ⟨HE.out.1,vT.out.size⟩;clear hmem hy hsp hio GU Ah hown hupd hk1 hpk hfk hstep hc8 ed hn8 hixi hit9 hperm UF hsz9;go_wp2_with fail
         obtain⟨go,hgo⟩:∃go:Nat,go=gk:=⟨_,rfl⟩
         subst hgo;obtain⟨wo,hwo⟩:∃wo:World,wo=wr:=⟨_,rfl⟩
         subst hwo;go_loopg [87] n8 (fun gk s87 wy=> ∃q2:Nat,s87= .int .i64 (q2:Int)/\q2+gk=n8/\Hid (aP wy E.base 3 1 (.slice A8 n8 c8) n8 (jN ((lx.take q2).map F++lx.drop q2)))/\Hid (aA (fun g=>(Value.slice A8 n8 c8).ownBlock=some g) w9 wy))
         case atStart=>exact⟨0,rfl,by omega,by simpa using HOW,kH (aA.refl _ _)⟩
         case round=>
          obtain⟨q2,rfl,hq2,HOy,Sv⟩:=hrel;have hmy:aY iN wr ix (uN L):=HM9.out.since Sv.out (fun h1=>HM9.out.jy HOW.out h1);have HMYY:=kH hmy;by_cases hlt3:q2<n8
          ·have hlt3':(q2:Int)<(n8:Int):=by omega
           have hw3:IntKind.i64.wrap ((q2:Int)+1)=(q2:Int)+1:=IntWalk.i64_in _ (by omega);obtain⟨u,hu⟩:∃u,lx[q2]? =some u:=⟨_,aaf (by rw[FP.out];exact hlt3)⟩
           obtain⟨hs1,hs2⟩:=N7 (F:=F) hu;obtain⟨b,off,cap',hv',-,-,UQ,hbl,hcs'⟩:=HOy.out.form (by omega);simp only[Value.slice.injEq,true_and]at hv';obtain⟨rfl,rfl⟩:=hv';have cu:wr.cell? ⟨b,off+q2,none⟩=some (.int .i64 u):=hcs' q2 _ (by unfold jN;rw[List.getElem?_map,hs1];rfl)
           have fu:wr.frozen? ⟨b,off+q2,none⟩=false:=by
            obtain⟨cur,hc⟩:=HOy.out.obj b rfl;simp[World.frozen?,hc]
           have Dj:=uu wr ix L HMYY.out u;rw[HF.out u]at Dj;obtain⟨y,hy⟩:∃y,F u=y:=⟨_,rfl⟩
           rw[hy]at Dj hs2;have hset:=HOy.out.set1 q2 hlt3 (.int .i64 y)
           have R5:(jN ((lx.take q2).map F++lx.drop q2)).set q2 (.int .i64 y)=jN ((lx.take (q2+1)).map F++lx.drop (q2+1)):=by
            rw[<- hs2];simp[jN,List.map_set]
           rw[R5]at hset;have Bh:=kH hset;have yJ:Hid (aA (fun g=>(Value.slice (some ⟨b,off,none⟩) n8 c8).ownBlock=some g) w9 (wr.setCell ⟨b,off+q2,none⟩ (.int .i64 y))):=kH (Sv.out.setCell (p:=⟨b,off+q2,none⟩) (.inl rfl) _);clear hs1 hs2 UQ hcs' hy hset R5 hu hmy;go_wp2_with fail
           go_roundg (gk - 1)
           case measure=>omega
           case rel=>exact⟨q2+1,by simp,by omega,Bh,yJ⟩
          ·have kJ:q2=n8:=by omega
           subst kJ;have hge3:¬((q2:Int)<(q2:Int)):=by omega
           have Bh:Hid (bf E (fG t) { R with uses:=R.uses.map F,bH:=zR F (fun j=>f j&&decide (j≠k1)) R.bH } V4 wr):=kH (by
            rw[HST.out];refine HUPD.out (lx.map F) wr ?_ Sv.out;have:=HOy.out;rw[List.take_of_length_le (by rw[FP.out];exact aab _),List.drop_eq_nil_of_le (by rw[FP.out];exact aab _),List.append_nil]at this;rw[List.length_map,FP.out]
            exact this)
           have yJ:Hid (mU iN wr vi it V4.vals left'):=kH (QN.out.keep (Sv.out.block vi QN.out.oH.lt (fun h1=>QN.out.oH.jy HOW.out h1)) (Sv.out.block it (by obtain⟨_,_,_,_,h1⟩:=QN.out.obj;exact(aae.1 h1).1) (fun h1=>QN.out.jy HOW.out h1)));have gW:Hid (Below w.heap.size w wr):=kH (vT.out.trans (Sv.out.toBelow Ta.out.2 (fun g hg=>by have:=(HOW.out.lt g hg).1;rw[Ta.out.1]at this;exact this)));clear hmy;go_wp2_with fail
           go_roundg (go - 1)
           case measure=>have h9:left.length=left'.length+1:=KU.out.length_eq;omega
           case rel=>exact⟨left',fun j=>f j&&decide (j≠k1),by have h9:left.length=left'.length+1:=KU.out.length_eq;omega,yJ,Bh,HMYY,gW,HFF'⟩
end Go.Proofs.YtoepemlnlpamlaaGreat
