/- The law NamesResolves holds where what it reads is of bulk at most 1048576: it returns true, and its argument reads as before. Part 31: Res2. -/
import Derived.Test.YtoepemlnlpamlaaGreatReso30
set_option maxRecDepth 100000
set_option maxHeartbeats 4000000
namespace Go.Proofs.YtoepemlnlpamlaaGreat
open Go.RowKit
theorem XT(w:World)(k0:Int)(x0:ByteArray)(a0 z0:Int)(A:Option Addr)(n0 c:Nat):∃W1,
 (((((w.alloc (.cells #[.int .i64 k0,.string x0,.int .i64 a0,.int .i64 z0,.slice A n0 c] 24)).alloc (.map #[] 0)).alloc (.map #[] 0)).alloc (.map #[] 0)).alloc (.map #[] 0)).alloc (.cells #[.map (some (w.heap.size+1)),.map (some (w.heap.size+1+1)),.map (some (w.heap.size+1+1+1)),.slice none 0 0,.slice none 0 0,.map (some (w.heap.size+1+1+1+1)),.slice none 0 0,.int .i64 0,.int .i64 0] 75)=W1 /\
 aV ⟨w.heap.size,w.heap.size+1+1+1+1+1,w.heap.size+1,w.heap.size+1+1,w.heap.size+1+1+1,w.heap.size+1+1+1+1,none,0⟩ ⟨[],[],[]⟩ ⟨[],[],[],[],0,0⟩ ⟨none,0,none,0,[]⟩ W1 /\
 ai W1 w.heap.size 24 #[.int .i64 k0,.string x0,.int .i64 a0,.int .i64 z0,.slice A n0 c]/\Below w.heap.size w W1:=by
 refine⟨_,rfl,⟨?_,?_,?_,?_,?_,rfl,aL.nil _ _ _ _,aL.nil _ _ _ _,aL.nil _ _ _ _,⟨by simp;omega,by simp;omega⟩,⟨by simp;omega,by simp;omega,by simp⟩⟩,?_,?_⟩
 ·have:=ai.new (((((w.alloc (.cells #[.int .i64 k0,.string x0,.int .i64 a0,.int .i64 z0,.slice A n0 c] 24)).alloc (.map #[] 0)).alloc (.map #[] 0)).alloc (.map #[] 0)).alloc (.map #[] 0)) 75 #[.map (some (w.heap.size+1)),.map (some (w.heap.size+1+1)),.map (some (w.heap.size+1+1+1)),.slice none 0 0,.slice none 0 0,.map (some (w.heap.size+1+1+1+1)),.slice none 0 0,.int .i64 0,.int .i64 0]
  simpa using this
 ·have:=((((aY.made (KK:=jg) (w.alloc (.cells #[.int .i64 k0,.string x0,.int .i64 a0,.int .i64 z0,.slice A n0 c] 24))).alloc (.map #[] 0)).alloc (.map #[] 0)).alloc (.map #[] 0)).alloc (.cells #[.map (some (w.heap.size+1)),.map (some (w.heap.size+1+1)),.map (some (w.heap.size+1+1+1)),.slice none 0 0,.slice none 0 0,.map (some (w.heap.size+1+1+1+1)),.slice none 0 0,.int .i64 0,.int .i64 0] 75)
  simpa [jC] using this
 ·have:=(((aY.made (KK:=jg) ((w.alloc (.cells #[.int .i64 k0,.string x0,.int .i64 a0,.int .i64 z0,.slice A n0 c] 24)).alloc (.map #[] 0))).alloc (.map #[] 0)).alloc (.map #[] 0)).alloc (.cells #[.map (some (w.heap.size+1)),.map (some (w.heap.size+1+1)),.map (some (w.heap.size+1+1+1)),.slice none 0 0,.slice none 0 0,.map (some (w.heap.size+1+1+1+1)),.slice none 0 0,.int .i64 0,.int .i64 0] 75)
  simpa [jC] using this
 ·have:=((aY.made (KK:=kC) (((w.alloc (.cells #[.int .i64 k0,.string x0,.int .i64 a0,.int .i64 z0,.slice A n0 c] 24)).alloc (.map #[] 0)).alloc (.map #[] 0))).alloc (.map #[] 0)).alloc (.cells #[.map (some (w.heap.size+1)),.map (some (w.heap.size+1+1)),.map (some (w.heap.size+1+1+1)),.slice none 0 0,.slice none 0 0,.map (some (w.heap.size+1+1+1+1)),.slice none 0 0,.int .i64 0,.int .i64 0] 75)
  simpa [uQ] using this
 ·have:=(aY.made (KK:=kC) ((((w.alloc (.cells #[.int .i64 k0,.string x0,.int .i64 a0,.int .i64 z0,.slice A n0 c] 24)).alloc (.map #[] 0)).alloc (.map #[] 0)).alloc (.map #[] 0))).alloc (.cells #[.map (some (w.heap.size+1)),.map (some (w.heap.size+1+1)),.map (some (w.heap.size+1+1+1)),.slice none 0 0,.slice none 0 0,.map (some (w.heap.size+1+1+1+1)),.slice none 0 0,.int .i64 0,.int .i64 0] 75)
  simpa using this
 ·exact((((ai.new w _ _).alloc _).alloc _).alloc _ |>.alloc _).alloc _
 ·exact((((((Below.refl _ w).alloc (abE _) _).alloc (by simp) _).alloc (by simp;omega) _).alloc (by simp;omega) _).alloc (by simp;omega) _).alloc (by simp;omega) _
theorem NK:∀(a:List Dc) (d:Dc) (i:Nat) (l:List (Int×Int)),y7 (a++[d]) i l=cZ (y7 a i l) d.node ((i+a.length:Nat):Int)
 | [],d,i,l=>rfl
 | x::a,d,i,l=>by
  rw[List.cons_append,y7,NK a d (i+1) _,y7,abR];congr 2
  omega
def RY(t:ae)(w:World)(e:Ending)(w':World):Prop:=∃E V,e= .returned (.pointer (some ⟨E.rp,0,none⟩))/\E.base=w.heap.size/\aV E (dG t) (bS t) V w'/\Below w.heap.size w w'
theorem Hu(t:ae)(A:Option Addr)(c:Nat)(w:World)(hv:qb true t=true)(hN:au t<=1000000)(hcap:t.kids.length<=c)(hk:aK w w.heap.size A 0 t.kids):
 Calls Tryz.prog 41 #[bD t A c] w (RY t w):=by
 obtain⟨k0,x0,a0,z0,n0,-,-,-,-,hn0,kX⟩:=fq t A c;obtain⟨i0,hi0,hz0,hz1,hz2⟩:=info_parts Au;obtain⟨W1,hW1,h1,hnb,hb1⟩:=XT w k0 x0 a0 z0 A n0 c;have hcnt:=Gf t A c W1 (by omega) (aK.mono hb1.size _ _ _ (aK.below hb1 (abE _) _ _ _ hk));rw[kX]at hcnt⊢;obtain⟨N,zm⟩:∃N,au t=N:=⟨_,rfl⟩
 rw[zm]at hcnt hN;have hmm:=@run_makeMap Tryz.prog;have Sv:=kH hcnt;have uX:=kH zm;have H1:=kH h1;have lD:=kH hnb;have HB1:=kH hb1;have BV:=kH kX;have HVO:=kH hv;have HCAP:=kH hcap;have HK:=kH hk;have m0:=hnb.cell 0;have m1:=hnb.cell 1;have m2:=hnb.cell 2;have m3:=hnb.cell 3;have m4:=hnb.cell 4;have lm:=hnb.lt;clear hcnt zm h1 hnb hb1 kX hv hcap hk hn0;go_enter Tryz.func41,Tryz.ntmps41
 go_wp2_with fail
 clear hW1 m0 m1 m2 m3 m4 lm;refine Sv.out.mono ?_;rintro e2 w2 ⟨rfl,hb2⟩;obtain⟨rp,Lr⟩:∃q,w.heap.size+1+1+1+1+1=q:=⟨_,rfl⟩
 rw[Lr]at H1⊢;obtain⟨vi,Lm⟩:∃q,w.heap.size+1+1+1+1=q:=⟨_,rfl⟩
 rw[Lm]at H1⊢;obtain⟨kk,hkk⟩:∃q,w.heap.size+1+1+1=q:=⟨_,rfl⟩
 rw[hkk]at H1⊢;obtain⟨ff,FT⟩:∃q,w.heap.size+1+1=q:=⟨_,rfl⟩
 rw[FT]at H1⊢;obtain⟨gg,hgg⟩:∃q,w.heap.size+1=q:=⟨_,rfl⟩
 rw[hgg]at H1⊢;have HAD:Hid (w.heap.size+1=gg/\gg+1=ff/\ff+1=kk/\kk+1=vi/\vi+1=rp):=kH (by omega);have HR2:Hid (aV ⟨w.heap.size,rp,gg,ff,kk,vi,none,0⟩ ⟨[],[],[]⟩ ⟨[],List.replicate 0 (-1),[],[],0,0⟩ ⟨none,0,none,0,[]⟩ w2):=kH (H1.out.below hb2);have HB2:Hid (Below w.heap.size w w2):=kH (HB1.out.trans (hb2.mono HB1.out.size));have qj:Hid (ai w2 w.heap.size 24 #[.int .i64 k0,.string x0,.int .i64 a0,.int .i64 z0,.slice A n0 c]):=kH (lD.out.below hb2 lD.out.lt);clear Lr Lm hkk FT hgg hb2 Sv H1 HB1 lD;go_wp2_with fail
 go_loopg [21] N (fun gk XO wr=> ∃(j:Nat) (A1:Option Addr) (c1:Nat),XO= .int .i64 (j:Int)/\j+gk=N/\Hid (aV ⟨w.heap.size,rp,gg,ff,kk,vi,A1,c1⟩ ⟨[],[],[]⟩ ⟨[],List.replicate j (-1),[],[],0,0⟩ ⟨none,0,none,0,[]⟩ wr)/\Hid (Below w.heap.size w wr)/\Hid (ai wr w.heap.size 24 #[.int .i64 k0,.string x0,.int .i64 a0,.int .i64 z0,.slice A n0 c]))
 case atStart=>exact⟨0,none,0,rfl,by omega,HR2,HB2,qj⟩
 case round=>
  obtain⟨j,A1,c1,rfl,hj,HR,HB,lD⟩:=hrel;by_cases hlt:j<N
  ·have hlt':(j:Int)<(N:Int):=by omega
   have hw:IntKind.i64.wrap ((j:Int)+1)=(j:Int)+1:=IntWalk.i64_in _ (by omega);have c4:wr.cell? ⟨rp,4,none⟩=some (.slice A1 j c1):=by have:=HR.out.blk.cell 4;simpa using this
   have lr:rp<wr.heap.size:=HR.out.blk.lt;have ho:=HR.out.us;simp only[List.length_replicate]at ho;have HO:=kH ho;clear ho;go_wp2_with (at_builtin;go_must (refine dm _ rfl (.tmp 27) (.tmp 28) _ rfl w.heap.size 3 i0 _ 1 8 Tryz.underlying28 hi0 hz0 hz1 hz2 rfl (.slice A1 j c1) j (gY (List.replicate j (-1))) rfl (HO.out.alloc _) ⟨wr.heap.size,0,none⟩ 1 1 [.int .i64 (-1)] rfl rfl (DT _ _ _ (by go_simp)) (by simp[Value.oneCell']) (by simp only[maxLen];omega) (by omega) (by have:=HB.out.size;simp;omega) ?_);intro vn w6 hown hgrow hat;obtain⟨A6,c6,nC,-,-⟩:=hown.shape;subst nC;have HOWN:=kH hown;have qV:=kH hgrow;have yQ:=ai.grown (ai.alloc HR.out.blk _) hgrow (fun e1=>HO.out.bZ HR.out.blk (by decide) e1.symm);have q4:=yQ.cell 4;have q5:=yQ.frozen 4;have q6:=yQ.lt;clear hown hgrow hat yQ)
   have hal:=HR.out.below (ag wr (.cells #[.int .i64 (-1)] 3));have hpu:=hal.pushU rfl rfl (-1) (A3:=A6) (c3:=c6) (by simp only[List.length_replicate];exact HOWN.out) (by simp only[List.length_replicate];exact qV.out);have hrs:List.replicate j (-1:Int)++[-1]=List.replicate (j+1) (-1):=by rw[List.replicate_succ']
   have aav:=hpu.1;simp only[hrs,List.length_replicate]at aav;have HP:=kH aav
   have HPB:Hid (Below w.heap.size w (w6.setCell ⟨rp,4,none⟩ (.slice A6 (j+1) c6))):=kH (by
    have h5:=hpu.2;simp only[List.length_replicate]at h5;have h6:Below w.heap.size (wr.alloc (.cells #[.int .i64 (-1)] 3)) (w6.setCell ⟨rp,4,none⟩ (.slice A6 (j+1) c6)):=h5.toBelow (by have:=HB.out.size;simp;omega) (fun g hg=>hg)
    exact(HB.out.trans ((ag wr (.cells #[.int .i64 (-1)] 3)).mono HB.out.size)).trans h6)
   have HPN:Hid (ai (w6.setCell ⟨rp,4,none⟩ (.slice A6 (j+1) c6)) w.heap.size 24 #[.int .i64 k0,.string x0,.int .i64 a0,.int .i64 z0,.slice A n0 c]):=kH
    (((lD.out.alloc (.cells #[.int .i64 (-1)] 3)).grown qV.out (fun e1=>HO.out.bZ lD.out (by decide) e1.symm)).far (p:=⟨rp,4,none⟩) (by have:=HAD.out;show w.heap.size≠rp;omega) _)
   clear hal hpu aav hrs;go_roundg (gk - 1)
   case measure=>omega
   case rel=>exact⟨j+1,A6,c6,by simp,by omega,HP,HPB,HPN⟩
  ·have hjN:j=N:=by omega
   subst hjN;have hge:¬((j:Int)<(j:Int)):=by omega
   have m0:=lD.out.cell 0;have m1:=lD.out.cell 1;have m2:=lD.out.cell 2;have m3:=lD.out.cell 3;have m4:=lD.out.cell 4;have lm:=lD.out.lt;have aaM:=Tj rp gg ff kk w.heap.size _ _ _ _ _ _ wr HR.out.blk ⟨HR.out.gl,HR.out.fl,HR.out.kn⟩ (by have:=HAD.out;omega) (by have:=HAD.out;have:=HB.out.size;omega) t A c (by rw[uX.out];omega) (aK.below HB.out (abE _) _ _ _ HK.out);rw[BV.out]at aaM;have HCO:=kH aaM;clear aaM;go_wp2_with fail
   clear m0 m1 m2 m3 m4 lm;refine HCO.out.mono ?_;rintro e3 w3 ⟨rfl,hc3,hs3⟩;have HR3:=kH (HR.out.collected hs3 hc3);have Km:=kH (lD.out.since hs3 (by have:=HAD.out;omega));have HB3:Hid (Below w.heap.size w w3):=kH (HB.out.trans (hs3.toBelow HB.out.size (fun g hg=>by have:=HAD.out;omega)));have m0:=Km.out.cell 0;have m1:=Km.out.cell 1;have m2:=Km.out.cell 2;have m3:=Km.out.cell 3;have m4:=Km.out.cell 4;have lm:=Km.out.lt;obtain⟨r0,hr0⟩:∃r0:RS,(⟨[],List.replicate j (-1),[],[],0,0⟩:RS)=r0:=⟨_,rfl⟩
   have hrb:RB r0 [] (au t):=by
    rw[<- hr0,uX.out];exact⟨abE _,abE _,abE _,(fun x hx=>by cases hx),(by simp),(by simpa using hN)⟩
   obtain⟨E,hE⟩:∃E:RC,(⟨w.heap.size,rp,gg,ff,kk,vi,A1,c1⟩:RC)=E:=⟨_,rfl⟩
   have BO:E.base=w.heap.size:=by rw[<- hE]
   have hEr:E.rp=rp:=by rw[<- hE]
   rw[hr0,hE]at HR3;have xV:=XF E (dG t) w.heap.size (by rw[BO];exact abE _) t false [] none [] r0 _ w3 A c HR3.out ⟨rfl,rfl⟩ ⟨List.nodup_nil,fun m hm=>by cases hm⟩ (aK.below HB3.out (abE _) _ _ _ HK.out) HCAP.out (by rw[BO];exact HB3.out.size) HVO.out hrb
   have hres:bS t= { (aJ (dG t) false t [] r0).1 with uses:=(aJ (dG t) false t [] r0).1.uses.map (nV (aJ (dG t) false t [] r0).1.ds),aS:=(aJ (dG t) false t [] r0).1.aS.map fun x=>(x.1,x.2.map (nV (aJ (dG t) false t [] r0).1.ds)) }:=by
    unfold bS;rw[uX.out,hr0]
   have Lp:=zA (dG t) t false [] r0;have aay:=GY (dG t) t false [] r0;have JL:=nK (dG t) t false [] r0;have hkeys:=UW (dG t) t false [] r0 (by rw[<- hr0];exact List.nodup_nil);obtain⟨R,hR⟩:∃R,(aJ (dG t) false t [] r0).1=R:=⟨_,rfl⟩
   rw[hR]at xV hres Lp aay JL hkeys;rw[uX.out]at aay;have hr0n:r0.next=0:=by rw[<- hr0]
   have hnd:R.ds.length<=1000000:=by
    have h1:=Lp.ds;have h2:r0.ds.length=0:=by rw[<- hr0];rfl
    omega
   have qM:R.aW.length<=1000000:=by
    have h1:=Lp.aW;have h2:r0.aW.length=0:=by rw[<- hr0];rfl
    omega
   have hnu:R.uses.length=j:=by rw[Lp.qX,<- hr0];simp
   have hrise:yf R.aW:=by
    obtain⟨l,e1,e2,-⟩:=JL.aW;rw[show r0.aW=[] by rw[<- hr0],List.nil_append]at e1;rw[e1];exact e2
   rw[BV.out,hEr]at xV;have HVI:=kH xV;have aM:=kH hres;have HKEYS:=kH hkeys;have HRISE:=kH hrise;have lC:=kH hnd;have mG:=kH qM;have Bj:=kH hnu;have HE:Hid (E.base=w.heap.size/\E.rp=rp/\E.vi=vi):=kH ⟨BO,hEr,by rw[<- hE]⟩;clear xV hres hkeys hrise Lp aay JL hrb hR hr0n hnd qM hnu hE BO hEr hr0 HR3 HCO;go_wp2_with fail
   clear m0 m1 m2 m3 m4 lm;refine HVI.out.mono ?_;rintro e4 w4 ⟨rfl,V4,h4,-,k4⟩
   have sV:Hid (Below w.heap.size w w4):=kH (by
    have:=KX.low k4 (by rw[HE.out.1];exact HB3.out.size);rw[HE.out.1]at this
    exact HB3.out.trans this)
   have H4:=kH h4;clear h4 k4 HVI Km HB3 lD HB HR;have c3:w4.cell? ⟨rp,3,none⟩=some (.slice V4.dA R.ds.length V4.dc):=by have:=H4.out.blk.cell 3;rw[HE.out.2.1]at this;exact this
   have lr4:rp<w4.heap.size:=by have:=H4.out.blk.lt;rw[HE.out.2.1]at this;exact this
   obtain⟨nd,hnd⟩:∃q,R.ds.length=q:=⟨_,rfl⟩
   rw[hnd]at c3;have HNDD:=kH hnd;obtain⟨dA,Rb⟩:∃q,V4.dA=q:=⟨_,rfl⟩
   rw[Rb]at c3;have HDA:=kH Rb;have hndm:nd<=1000000:=by rw[<- hnd];exact lC.out
   clear hnd Rb;go_wp2_with (refine zW (KK:=kC) _ rfl _ _ _ 71 rfl 3 3 Tryz.underlying71 Tryz.underlying3 w4.heap.size [] (-1) (.int .i64 (-1)) rfl rfl rfl (aY.made w4) (ag w4 _) (abE _) ?_;intro w5 iA hb5;have d3:w5.cell? ⟨rp,3,none⟩=some (.slice dA nd V4.dc):=(hb5.cell (p:=⟨rp,3,none⟩) lr4).trans c3;have HM5:=kH iA;have jb:=kH hb5;clear iA hb5)
   clear c3 d3 hmm;have HIX:Hid (w.heap.size<=w4.heap.size):=kH sV.out.size;obtain⟨ix,hix⟩:∃q,w4.heap.size=q:=⟨_,rfl⟩
   rw[hix]at HM5 jb HIX⊢;have abw:=kH hix;clear hix;go_loopg [46] nd (fun gk s46 wr=> ∃i:Nat,s46= .int .i64 (i:Int)/\i+gk=nd/\Hid (aY kC wr ix (uQ (y7 (R.ds.take i) 0 [(-1,-1)])))/\Hid (Below ix w4 wr))
   case atStart=>exact⟨0,rfl,by omega,by have:=HM5.out;rw[List.take_zero];exact kH this,jb⟩
   case round=>
    obtain⟨i,rfl,hi,HM,ZH⟩:=hrel;by_cases hlt:i<nd
    ·have hlt':(i:Int)<(nd:Int):=by omega
     have hw:IntKind.i64.wrap ((i:Int)+1)=(i:Int)+1:=IntWalk.i64_in _ (by omega);obtain⟨d,hd⟩:∃d,R.ds[i]? =some d:=⟨_,abI (by rw[HNDD.out];exact hlt)⟩
     have hb4:Below w4.heap.size w4 wr:=by rw[abw.out];exact ZH.out
     have hrow:=(H4.out.ds.below hb4 (fun g hg=>(H4.out.ds.lt g hg).2)).rowAt (cells:=cB) (l:=R.ds) rfl rfl (fun c _=>rfl) rfl;rw[HDA.out]at hrow;obtain⟨b,off,hA,hbl,hcs⟩:=hrow i d hd;subst hA;obtain⟨dk,dn,dv,dw⟩:=d;have t0:wr.cell? ⟨b,off+i*4,none⟩=some (.int .i64 dk):=by simpa using hcs 0 _ rfl
     have t1:wr.cell? ⟨b,off+i*4+1,none⟩=some (.string dn):=by simpa using hcs 1 _ rfl
     have t2:wr.cell? ⟨b,off+i*4+2,none⟩=some (.int .i64 dv):=by simpa using hcs 2 _ rfl
     have t3:wr.cell? ⟨b,off+i*4+3,none⟩=some (.int .i64 dw):=by simpa using hcs 3 _ rfl
     clear hcs hrow hb4;obtain⟨w7,hrun,iV,hg7,hz7⟩:=fF (P:=Tryz.prog) (KK:=kC) (t:=71) (kt:=3) (et:=3) Tryz.underlying71 Tryz.underlying3 (HM.out.alloc (.cells #[.int .i64 dk,.string dn,.int .i64 dv,.int .i64 dw] 49)) dv (.int .i64 (i:Int));change (Instr.mapUpdate 71 (.map (some ix)) (.int .i64 dv) (.int .i64 (i:Int))).run Tryz.prog (wr.alloc (.cells #[.int .i64 dk,.string dn,.int .i64 dv,.int .i64 dw] 49))=_ at hrun;rw[PO]at iV;have hs7:aF (fun g=>g=ix) (wr.alloc (.cells #[.int .i64 dk,.string dn,.int .i64 dv,.int .i64 dw] 49)) w7:=(aF.refl _ _).grown hg7 (fun k hk=>by cases hk;exact .inl rfl);have hixw:ix<=wr.heap.size:=by have:=ZH.out.size;rw[abw.out]at this;exact this
     have gN:Hid (Below ix w4 w7):=kH ((ZH.out.trans ((ag wr _).mono hixw)).trans (hs7.toBelow (by simp;omega) (fun g hg=>by omega)))
     have HM7:Hid (aY kC w7 ix (uQ (y7 (R.ds.take (i+1)) 0 [(-1,-1)]))):=kH (by
      rw[yF hd,NK]
      have:0+(R.ds.take i).length=i:=by
       have:=(abK.1 hd).1;simp;omega
      rw[this]
      exact iV)
     clear iV hg7 hz7 hs7 hixw hd;go_wp2_with fail
     go_roundg (gk - 1)
     case measure=>omega
     case rel=>exact⟨i+1,by simp,by omega,HM7,gN⟩
    ·have hin:i=nd:=by omega
     subst hin;have hge:¬((i:Int)<(i:Int)):=by omega
     have hb4:Below w4.heap.size w4 wr:=by rw[abw.out];exact ZH.out
     obtain⟨L,hL⟩:∃L,y7 R.ds 0 [(-1,-1)]=L:=⟨_,rfl⟩
     have HF:Hid (∀u,(bG L u).getD 0=nV R.ds u):=kH (fun u=>by rw[<- hL];rfl)
     have HML:Hid (aY kC wr ix (uQ L)):=kH (by
      have:=HM.out;rw[List.take_of_length_le (by rw[HNDD.out];exact abE _),hL]at this
      exact this)
     obtain⟨F,hF⟩:∃F:Int->Int,nV R.ds=F:=⟨_,rfl⟩
     rw[hF]at HF aM;have HRU:Hid (aV E (dG t) { R with uses:=(R.uses.take 0).map F++R.uses.drop 0 } V4 wr):=kH (H4.out.below hb4);have qf:Hid (Below w.heap.size w wr):=kH (sV.out.trans (hb4.mono sV.out.size));obtain⟨uA,huA⟩:∃q,E.uA=q:=⟨_,rfl⟩
     obtain⟨uc,huc⟩:∃q,E.uc=q:=⟨_,rfl⟩
     have c4:wr.cell? ⟨rp,4,none⟩=some (.slice uA j uc):=by
      have:=(H4.out.below hb4).blk.cell 4;rw[HE.out.2.1]at this;rw[<- huA,<- huc,<- Bj.out];exact this
     have lr:rp<wr.heap.size:=by have:=(H4.out.below hb4).blk.lt;rw[HE.out.2.1]at this;exact this
     have Zq:Hid (E.uA=uA/\E.uc=uc):=kH ⟨huA,huc⟩;clear hL hF hb4 huA huc HM ZH;go_wp2_with fail
     clear c4;go_loopg [61] j (fun gk s61 wr=> ∃q:Nat,s61= .int .i64 (q:Int)/\q+gk=j/\Hid (aV E (dG t) { R with uses:=(R.uses.take q).map F++R.uses.drop q } V4 wr)/\Hid (aY kC wr ix (uQ L))/\Hid (Below w.heap.size w wr))
     case atStart=>exact⟨0,rfl,by omega,HRU,HML,qf⟩
     case round=>
      obtain⟨q,rfl,hq,HR,HMX,HB⟩:=hrel;by_cases hlt2:q<j
      ·have hlt2':(q:Int)<(j:Int):=by omega
       have hw2:IntKind.i64.wrap ((q:Int)+1)=(q:Int)+1:=IntWalk.i64_in _ (by omega);obtain⟨u,hu⟩:∃u,R.uses[q]? =some u:=⟨_,abI (by rw[Bj.out];exact hlt2)⟩
       obtain⟨hs1,hs2⟩:=Pz (F:=F) hu;have hdr:=HR.out.below ((Below.refl _ wr).drew);have hll:((R.uses.take q).map F++R.uses.drop q).length=j:=by have:=Bj.out;simp;omega
       obtain⟨b,off,hA,hbl,-,hfz,hset⟩:=hdr.yo q (by show q<((R.uses.take q).map F++R.uses.drop q).length;rw[hll];exact hlt2) (fun _=>False);rw[Zq.out.1]at hA;subst hA;obtain⟨b',off',cap',hv',-,-,Wv,-,hcs'⟩:=HR.out.us.form (by show 0<((R.uses.take q).map F++R.uses.drop q).length;rw[hll];omega);have hA':some (⟨b,off,none⟩:Addr)=some ⟨b',off',none⟩:=by rw[<- Zq.out.1];injection hv'
       simp only[abJ,Addr.mk.injEq,and_true]at hA';obtain⟨rfl,rfl⟩:=hA';have cu:wr.cell? ⟨b,off+q,none⟩=some (.int .i64 u):=hcs' q _ (by show(gY ((R.uses.take q).map F++R.uses.drop q))[q]? =_;unfold gY;rw[List.getElem?_map,hs1];rfl);have fu:wr.frozen? ⟨b,off+q,none⟩=false:=hfz
       have c4:wr.cell? ⟨rp,4,none⟩=some (.slice (some ⟨b,off,none⟩) j uc):=by
        have:=HR.out.blk.cell 4;rw[HE.out.2.1]at this;rw[<- Zq.out.1,<- Zq.out.2,<- hll];exact this
       have lr2:rp<wr.heap.size:=by have:=HR.out.blk.lt;rw[HE.out.2.1]at this;exact this
       have lb2:b<wr.heap.size:=hbl;have D7:=uH wr.drew ix L HMX.out.drew u;rw[HF.out u]at D7;have hixb:ix≠b:=fun e1=>HMX.out.jf HR.out.us (by rw[Zq.out.1];show some b=some ix;rw[e1])
       have M7:=kH (hset (F u));have HS2:=kH hs2;have IY:=kH Wv;obtain⟨y,hy⟩:∃y,F u=y:=⟨_,rfl⟩
       rw[hy]at M7 HS2 D7;have hq0:q<j:=hlt2;clear hs1 hs2 hdr hset hcs' hv' Wv hu hy hll hfz hbl;go_wp2_with fail
       refine dY (fun w'=>w'.cell? ⟨rp,4,none⟩=some (.slice (some ⟨b,off,none⟩) j uc)/\(Instr.lookup 71 (.map (some ix)) (.int .i64 u) false).run Tryz.prog w'= .ok (.int .i64 y) w') [9] [true,true,true,true,true,true,true,true,true,false] (by kernel_rfl) (by kernel_rfl) rfl (by kernel_rfl) ?_;have hS0:wr.drew.cell? ⟨rp,4,none⟩=some (.slice (some ⟨b,off,none⟩) j uc)/\(Instr.lookup 71 (.map (some ix)) (.int .i64 u) false).run Tryz.prog wr.drew= .ok (.int .i64 y) wr.drew:=⟨c4,D7⟩
       iterate 9(refine gP rfl hS0 (by intro w' hSw;obtain⟨hs1,hs2⟩:=hSw;go_simp;rfl) ?_;simp only[Act.put,sA,sZ,sC])
       refine gZ (w':=wr.drew.setCell ⟨b,off+q,none⟩ (.int .i64 y)) rfl (by go_simp) (by simp) ?_;refine iT ?_;simp only[Act.put]
       have Bg:Hid (aV E (dG t) { R with uses:=(R.uses.take (q+1)).map F++R.uses.drop (q+1) } V4 (wr.drew.setCell ⟨b,off+q,none⟩ (.int .i64 y))):=kH (by
        have:=M7.out.1;rw[HS2.out]at this
        exact this)
       have yX:Hid (aY kC (wr.drew.setCell ⟨b,off+q,none⟩ (.int .i64 y)) ix (uQ L)):=kH (HMX.out.drew.setCell (p:=⟨b,off+q,none⟩) hixb _);have iM:Hid (Below w.heap.size w (wr.drew.setCell ⟨b,off+q,none⟩ (.int .i64 y))):=kH ((HB.out.drew).setCell (p:=⟨b,off+q,none⟩) (by have:=IY.out;rw[HE.out.1]at this;exact this) _);clear hS0 D7 c4 cu fu M7 HS2;go_wp2_with fail
       go_roundg (gk - 1)
       case measure=>omega
       case rel=>exact⟨q+1,by simp,by omega,Bg,yX,iM⟩
      ·have hqj:q=j:=by omega
       subst hqj;have hge2:¬((q:Int)<(q:Int)):=by omega
       have c5:wr.cell? ⟨rp,5,none⟩=some (.map (some vi)):=by
        have:=HR.out.blk.cell 5;rw[HE.out.2.1,HE.out.2.2]at this;exact this
       have lr2:rp<wr.heap.size:=by have:=HR.out.blk.lt;rw[HE.out.2.1]at this;exact this
       have Lm:=HR.out.vi;rw[HE.out.2.2]at Lm;have hkv:V4.vals.map (·.1)=R.aS.map (·.1):=fB.keys HR.out.aS;obtain⟨w8,Yz,hit8,dW,QL⟩:=Ag (P:=Tryz.prog) (t:=72) (kt:=3) (et:=28) Tryz.underlying72 Lm;have HIT8:=kH hit8
       have EU:Hid (aV E (dG t) { R with uses:=R.uses.map F,aS:=zX F (fun _=>true) R.aS } V4 w8):=kH (by
        have:=HR.out.below dW;rw[List.take_of_length_le (by rw[Bj.out];exact abE _),List.drop_eq_nil_of_le (by rw[Bj.out];exact abE _),List.append_nil]at this;rw[UZ]
        exact this)
       have HM8:Hid (aY kC w8 ix (uQ L)):=kH (HMX.out.IL dW);have uP:Hid (Below w.heap.size w w8):=kH (HB.out.trans (dW.mono HB.out.size));have HKV:=kH hkv;have hvil:=Lm.lt;have HWS:Hid (w.heap.size<=wr.heap.size):=kH HB.out.size;clear Lm hkv hit8 dW QL;go_wp2_with fail
       obtain⟨it,zb⟩:∃it,wr.heap.size=it:=⟨_,rfl⟩
       rw[zb]at HIT8 hvil HWS⊢;clear c5 zb;go_loopg [] R.aS.length (fun gk wx=> ∃(left:List (Value×Value)) (f:Int->Bool),gk=left.length/\Hid (mI kC wx vi it V4.vals left)/\Hid (aV E (dG t) { R with uses:=R.uses.map F,aS:=zX F f R.aS } V4 wx)/\Hid (aY kC wx ix (uQ L))/\Hid (Below w.heap.size w wx)/\Hid ((left.map (·.1)).Nodup/\∀k∈R.aS.map (·.1),(f k=true↔Value.int .i64 k∈left.map (·.1))))
       case atStart=>
        refine⟨_,fun _=>true,?_,HIT8,EU,HM8,uP,kH ⟨?_,fun k hk=>?_⟩⟩
        ·have:=congrArg List.length HKV.out
         simp at this;simp;omega
        ·rw[List.map_map]
         have e1:(V4.vals.map ((fun x=>x.1) ∘ fun x:Int×Value=>(kC.qa x.1,x.2)))=(V4.vals.map (·.1)).map (fun k=>Value.int .i64 k):=by rw[List.map_map];rfl
         rw[e1,HKV.out];exact List.Pairwise.map _ (fun a b hab e2=>hab (by injection e2)) HKEYS.out
        ·rw[<- HKV.out]at hk
         obtain⟨y,hy,rfl⟩:=List.mem_map.1 hk;exact⟨fun _=>List.mem_map.2 ⟨_,List.mem_map.2 ⟨y,hy,rfl⟩,rfl⟩,fun _=>rfl⟩
       case round=>
        obtain⟨left,f,hgl,HI,gW,HMY,OC,HFF⟩:=hrel;rcases Cg (P:=Tryz.prog) 0 HI.out (by omega) with⟨hl0,hnx⟩| ⟨kv,vv,left',w9,hperm,hmem,hnx,hit9,Wl,hsz9,hent⟩
        ·subst hl0
         have hvp:zX F f R.aS=R.aS.map fun x=>(x.1,x.2.map F):=ZO (fun k hk=>by
          have h:=HFF.out.2 k hk
          cases hf:f k with
          | false=>rfl
          | true=>exact absurd (h.1 hf) (by simp))
         have hrow:=gW.out.ps.rowAt (cells:=iI) (l:=R.aW) rfl rfl (fun c _=>rfl) rfl;obtain⟨np,qM⟩:∃q,R.aW.length=q:=⟨_,rfl⟩
         have c6:wr.cell? ⟨rp,6,none⟩=some (.slice V4.pA np V4.pc):=by
          have:=gW.out.blk.cell 6;rw[HE.out.2.1]at this;rw[<- qM];exact this
         have qy:rp<wr.heap.size:=by have:=gW.out.blk.lt;rw[HE.out.2.1]at this;exact this
         have hsrt:=MN R.aW V4.pA np V4.pc wr qM hrow HRISE.out (by rw[<- qM];exact mG.out);have HSRT:=kH hsrt;have HVP:=kH hvp;clear hvp hrow qM hsrt;go_wp2_with fail
         refine HSRT.out.mono ?_;rintro e10 bA ⟨rfl,jD⟩;have aO:Hid (RY t w (.returned (.pointer (some ⟨rp,0,none⟩))) bA):=kH ⟨E,V4,by rw[HE.out.2.1],HE.out.1,by rw[aM.out,<- HVP.out];exact gW.out.below jD,OC.out.trans (jD.mono OC.out.size)⟩;clear jD c6;go_wp2_with fail
         go_ret
         exact aO.out
        ·obtain⟨y,hy,he⟩:=List.mem_map.1 hmem
         obtain⟨k1,v0⟩:=y;simp only[Prod.mk.injEq]at he;obtain⟨rfl,rfl⟩:=he;obtain⟨v1,v2,hsp⟩:=List.append_of_mem hy;obtain⟨oa,ob,oc,od,hio⟩:=HI.out.obj;have IA:=gW.out.sinceO Wl (fun g cs t fr hg e=>by subst e;rw[hio]at hg;cases hg) (fun g es ck hg e=>by subst e;rw[hio]at hg;cases hg);obtain⟨l1,lx,l2,xV,hown,hupd⟩:=IA.setVis hsp;have hk1:k1∈R.aS.map (·.1):=by rw[<- HKV.out];exact List.mem_map.2 ⟨_,hy,rfl⟩
         have hpk:(left.map (·.1)).Perm (Value.int .i64 k1::left'.map (·.1)):=hperm.map (·.1);have hfk:f k1=true:=(HFF.out.2 k1 hk1).2 (hpk.mem_iff.2 (by simp));have hstep:=XG HKEYS.out xV hfk;obtain⟨A8,c8,dV,hc8,dS⟩:=hown.shape;obtain⟨n8,hn8⟩:∃q,lx.length=q:=⟨_,rfl⟩
         rw[hn8]at dV hown hc8;subst dV;have hn8m:n8<=maxLen:=abF hc8 dS;simp only[maxLen]at hn8m
         have hixi:ix≠it:=fun e=>by
          obtain⟨es,ck,ho⟩:=HMY.out.isMap;rw[e,hio]at ho;cases ho
         have HM9:Hid (aY kC w9 ix (uQ L)):=kH (HMY.out.since Wl hixi);have zz:Hid (Below w.heap.size w w9):=kH (OC.out.trans (Wl.toBelow OC.out.size (fun g e=>by rw[e];exact HWS.out)))
         have HFF':Hid ((left'.map (·.1)).Nodup/\∀k∈R.aS.map (·.1),((f k&&decide (k≠k1))=true↔Value.int .i64 k∈left'.map (·.1))):=kH (by
          have hnd:=hpk.nodup_iff.1 HFF.out.1;rw[List.nodup_cons]at hnd;refine⟨hnd.2,fun k hk=>?_⟩;rw[abG,decide_eq_true_eq,HFF.out.2 k hk,hpk.mem_iff,List.mem_cons];constructor
          ·rintro⟨h1|h1,h2⟩
           ·exact absurd (by injection h1) h2
           ·exact h1
          ·intro h1
           exact⟨.inr h1,fun e=>hnd.1 (by rw[<- e];exact h1)⟩)
         have HST:=kH hstep;have HUPD:=kH hupd;have HOW:=kH hown;have Sn:=kH hit9;have Mr:=kH hperm;have Gv:=kH hn8;have UL:Hid (E.base=w.heap.size/\w.heap.size<=w9.heap.size):=kH ⟨HE.out.1,zz.out.size⟩;clear hmem hy hsp hio IA xV hown hupd hk1 hpk hfk hstep hc8 dS hn8 hixi hit9 hperm Wl hsz9;go_wp2_with fail
         obtain⟨go,hgo⟩:∃go:Nat,go=gk:=⟨_,rfl⟩
         subst hgo;obtain⟨wo,hwo⟩:∃wo:World,wo=wr:=⟨_,rfl⟩
         subst hwo;go_loopg [87] n8 (fun gk s87 wy=> ∃q2:Nat,s87= .int .i64 (q2:Int)/\q2+gk=n8/\Hid (aL wy E.base 3 1 (.slice A8 n8 c8) n8 (gY ((lx.take q2).map F++lx.drop q2)))/\Hid (aF (fun g=>(Value.slice A8 n8 c8).ownBlock=some g) w9 wy))
         case atStart=>exact⟨0,rfl,by omega,by simpa using HOW,kH (aF.refl _ _)⟩
         case round=>
          obtain⟨q2,rfl,hq2,HOy,Ut⟩:=hrel;have hmy:aY kC wr ix (uQ L):=HM9.out.since Ut.out (fun h1=>HM9.out.jf HOW.out h1);have HMYY:=kH hmy;by_cases hlt3:q2<n8
          ·have hlt3':(q2:Int)<(n8:Int):=by omega
           have hw3:IntKind.i64.wrap ((q2:Int)+1)=(q2:Int)+1:=IntWalk.i64_in _ (by omega);obtain⟨u,hu⟩:∃u,lx[q2]? =some u:=⟨_,abI (by rw[Gv.out];exact hlt3)⟩
           obtain⟨hs1,hs2⟩:=Pz (F:=F) hu;obtain⟨b,off,cap',hv',-,-,Wv,hbl,hcs'⟩:=HOy.out.form (by omega);simp only[Value.slice.injEq,true_and]at hv';obtain⟨rfl,rfl⟩:=hv';have cu:wr.cell? ⟨b,off+q2,none⟩=some (.int .i64 u):=hcs' q2 _ (by unfold gY;rw[List.getElem?_map,hs1];rfl)
           have fu:wr.frozen? ⟨b,off+q2,none⟩=false:=by
            obtain⟨cur,hc⟩:=HOy.out.obj b rfl;simp[World.frozen?,hc]
           have D7:=uH wr ix L HMYY.out u;rw[HF.out u]at D7;obtain⟨y,hy⟩:∃y,F u=y:=⟨_,rfl⟩
           rw[hy]at D7 hs2;have hset:=HOy.out.set1 q2 hlt3 (.int .i64 y)
           have T9:(gY ((lx.take q2).map F++lx.drop q2)).set q2 (.int .i64 y)=gY ((lx.take (q2+1)).map F++lx.drop (q2+1)):=by
            rw[<- hs2];simp[gY,List.map_set]
           rw[T9]at hset;have Bg:=kH hset;have yX:Hid (aF (fun g=>(Value.slice (some ⟨b,off,none⟩) n8 c8).ownBlock=some g) w9 (wr.setCell ⟨b,off+q2,none⟩ (.int .i64 y))):=kH (Ut.out.setCell (p:=⟨b,off+q2,none⟩) (.inl rfl) _);clear hs1 hs2 Wv hcs' hy hset T9 hu hmy;go_wp2_with fail
           go_roundg (gk - 1)
           case measure=>omega
           case rel=>exact⟨q2+1,by simp,by omega,Bg,yX⟩
          ·have hqn:q2=n8:=by omega
           subst hqn;have hge3:¬((q2:Int)<(q2:Int)):=by omega
           have Bg:Hid (aV E (dG t) { R with uses:=R.uses.map F,aS:=zX F (fun j=>f j&&decide (j≠k1)) R.aS } V4 wr):=kH (by
            rw[HST.out];refine HUPD.out (lx.map F) wr ?_ Ut.out;have:=HOy.out;rw[List.take_of_length_le (by rw[Gv.out];exact abE _),List.drop_eq_nil_of_le (by rw[Gv.out];exact abE _),List.append_nil]at this;rw[List.length_map,Gv.out]
            exact this)
           have yX:Hid (mI kC wr vi it V4.vals left'):=kH (Sn.out.keep (Ut.out.block vi Sn.out.oo.lt (fun h1=>Sn.out.oo.jf HOW.out h1)) (Ut.out.block it (by obtain⟨_,_,_,_,h1⟩:=Sn.out.obj;exact(abH.1 h1).1) (fun h1=>Sn.out.jf HOW.out h1)));have iM:Hid (Below w.heap.size w wr):=kH (zz.out.trans (Ut.out.toBelow UL.out.2 (fun g hg=>by have:=(HOW.out.lt g hg).1;rw[UL.out.1]at this;exact this)));clear hmy;go_wp2_with fail
           go_roundg (go - 1)
           case measure=>have h9:left.length=left'.length+1:=Mr.out.length_eq;omega
           case rel=>exact⟨left',fun j=>f j&&decide (j≠k1),by have h9:left.length=left'.length+1:=Mr.out.length_eq;omega,yX,Bg,HMYY,iM,HFF'⟩
end Go.Proofs.YtoepemlnlpamlaaGreat
