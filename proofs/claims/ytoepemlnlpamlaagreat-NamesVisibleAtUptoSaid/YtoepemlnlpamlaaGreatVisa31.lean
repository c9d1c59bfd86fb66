/- The law NamesVisibleAt holds where what it reads is of bulk at most 1048576: it returns true, and its arguments read as before. Part 31: Res2. -/
import Derived.Test.YtoepemlnlpamlaaGreatVisa30
set_option maxRecDepth 100000
set_option maxHeartbeats 4000000
namespace Go.Proofs.YtoepemlnlpamlaaGreat
open Go.RowKit
theorem Zc(w:World)(C:Int)(x0:ByteArray)(B E:Int)(A:Option Addr)(D c:Nat):∃F,
 (((((w.alloc (.cells #[.int .i64 C,.string x0,.int .i64 B,.int .i64 E,.slice A D c] 24)).alloc (.map #[] 0)).alloc (.map #[] 0)).alloc (.map #[] 0)).alloc (.map #[] 0)).alloc (.cells #[.map (some (w.heap.size+1)),.map (some (w.heap.size+1+1)),.map (some (w.heap.size+1+1+1)),.slice none 0 0,.slice none 0 0,.map (some (w.heap.size+1+1+1+1)),.slice none 0 0,.int .i64 0,.int .i64 0] 75)=F /\
 aX ⟨w.heap.size,w.heap.size+1+1+1+1+1,w.heap.size+1,w.heap.size+1+1,w.heap.size+1+1+1,w.heap.size+1+1+1+1,none,0⟩ ⟨[],[],[]⟩ ⟨[],[],[],[],0,0⟩ ⟨none,0,none,0,[]⟩ F /\
 aj F w.heap.size 24 #[.int .i64 C,.string x0,.int .i64 B,.int .i64 E,.slice A D c]/\Below w.heap.size w F:=by
 refine⟨_,rfl,⟨?_,?_,?_,?_,?_,rfl,aK.nil _ _ _ _,aK.nil _ _ _ _,aK.nil _ _ _ _,⟨by simp;omega,by simp;omega⟩,⟨by simp;omega,by simp;omega,by simp⟩⟩,?_,?_⟩
 ·have:=aj.new (((((w.alloc (.cells #[.int .i64 C,.string x0,.int .i64 B,.int .i64 E,.slice A D c] 24)).alloc (.map #[] 0)).alloc (.map #[] 0)).alloc (.map #[] 0)).alloc (.map #[] 0)) 75 #[.map (some (w.heap.size+1)),.map (some (w.heap.size+1+1)),.map (some (w.heap.size+1+1+1)),.slice none 0 0,.slice none 0 0,.map (some (w.heap.size+1+1+1+1)),.slice none 0 0,.int .i64 0,.int .i64 0]
  simpa using this
 ·have:=((((bA.made (KK:=jo) (w.alloc (.cells #[.int .i64 C,.string x0,.int .i64 B,.int .i64 E,.slice A D c] 24))).alloc (.map #[] 0)).alloc (.map #[] 0)).alloc (.map #[] 0)).alloc (.cells #[.map (some (w.heap.size+1)),.map (some (w.heap.size+1+1)),.map (some (w.heap.size+1+1+1)),.slice none 0 0,.slice none 0 0,.map (some (w.heap.size+1+1+1+1)),.slice none 0 0,.int .i64 0,.int .i64 0] 75)
  simpa [jS] using this
 ·have:=(((bA.made (KK:=jo) ((w.alloc (.cells #[.int .i64 C,.string x0,.int .i64 B,.int .i64 E,.slice A D c] 24)).alloc (.map #[] 0))).alloc (.map #[] 0)).alloc (.map #[] 0)).alloc (.cells #[.map (some (w.heap.size+1)),.map (some (w.heap.size+1+1)),.map (some (w.heap.size+1+1+1)),.slice none 0 0,.slice none 0 0,.map (some (w.heap.size+1+1+1+1)),.slice none 0 0,.int .i64 0,.int .i64 0] 75)
  simpa [jS] using this
 ·have:=((bA.made (KK:=kX) (((w.alloc (.cells #[.int .i64 C,.string x0,.int .i64 B,.int .i64 E,.slice A D c] 24)).alloc (.map #[] 0)).alloc (.map #[] 0))).alloc (.map #[] 0)).alloc (.cells #[.map (some (w.heap.size+1)),.map (some (w.heap.size+1+1)),.map (some (w.heap.size+1+1+1)),.slice none 0 0,.slice none 0 0,.map (some (w.heap.size+1+1+1+1)),.slice none 0 0,.int .i64 0,.int .i64 0] 75)
  simpa [vF] using this
 ·have:=(bA.made (KK:=kX) ((((w.alloc (.cells #[.int .i64 C,.string x0,.int .i64 B,.int .i64 E,.slice A D c] 24)).alloc (.map #[] 0)).alloc (.map #[] 0)).alloc (.map #[] 0))).alloc (.cells #[.map (some (w.heap.size+1)),.map (some (w.heap.size+1+1)),.map (some (w.heap.size+1+1+1)),.slice none 0 0,.slice none 0 0,.map (some (w.heap.size+1+1+1+1)),.slice none 0 0,.int .i64 0,.int .i64 0] 75)
  simpa using this
 ·exact((((aj.new w _ _).alloc _).alloc _).alloc _ |>.alloc _).alloc _
 ·exact((((((Below.refl _ w).alloc (aab _) _).alloc (by simp) _).alloc (by simp;omega) _).alloc (by simp;omega) _).alloc (by simp;omega) _).alloc (by simp;omega) _
theorem OO:∀(a:List Dc) (d:Dc) (i:Nat) (l:List (Int×Int)),zM (a++[d]) i l=dh (zM a i l) d.node ((i+a.length:Nat):Int)
 | [],d,i,l=>rfl
 | x::a,d,i,l=>by
  rw[List.cons_append,zM,OO a d (i+1) _,zM,aao];congr 2
  omega
def TA(t:ae)(w:World)(e:Ending)(w':World):Prop:=∃E V,e= .returned (.pointer (some ⟨E.rp,0,none⟩))/\E.base=w.heap.size/\aX E (dO t) (dZ t) V w'/\Below w.heap.size w w'
theorem I5(t:ae)(A:Option Addr)(c:Nat)(w:World)(hv:qA true t=true)(hN:ai t<=1000000)(hcap:t.kids.length<=c)(hk:aJ w w.heap.size A 0 t.kids):
 Calls Tryz.prog 41 #[aZ t A c] w (TA t w):=by
 obtain⟨k0,x0,a0,z0,n0,-,-,-,-,hn0,jw⟩:=dR t A c;obtain⟨i0,hi0,hz0,hz1,hz2⟩:=info_parts yJ;obtain⟨W1,hW1,T,Y,hb1⟩:=Zc w k0 x0 a0 z0 A n0 c;have hcnt:=He t A c W1 (by omega) (aJ.mono hb1.size _ _ _ (aJ.below hb1 (aab _) _ _ _ hk));rw[jw]at hcnt⊢;obtain⟨N,Ac⟩:∃N,ai t=N:=⟨_,rfl⟩
 rw[Ac]at hcnt hN;have hmm:=@run_makeMap Tryz.prog;have Ua:=kH hcnt;have vQ:=kH Ac;have H1:=kH T;have lV:=kH Y;have HB1:=kH hb1;have FU:=kH jw;have HVO:=kH hv;have HCAP:=kH hcap;have HK:=kH hk;have m0:=Y.cell 0;have m1:=Y.cell 1;have m2:=Y.cell 2;have m3:=Y.cell 3;have m4:=Y.cell 4;have lm:=Y.lt;clear hcnt Ac T Y hb1 jw hv hcap hk hn0;go_in
 go_wp2_with fail
 clear hW1 m0 m1 m2 m3 m4 lm;refine Ua.out.mono ?_;rintro e2 w2 ⟨rfl,hb2⟩;obtain⟨D,MB⟩:∃q,w.heap.size+1+1+1+1+1=q:=⟨_,rfl⟩
 rw[MB]at H1⊢;obtain⟨vi,D8⟩:∃q,w.heap.size+1+1+1+1=q:=⟨_,rfl⟩
 rw[D8]at H1⊢;obtain⟨kk,hkk⟩:∃q,w.heap.size+1+1+1=q:=⟨_,rfl⟩
 rw[hkk]at H1⊢;obtain⟨ff,GK⟩:∃q,w.heap.size+1+1=q:=⟨_,rfl⟩
 rw[GK]at H1⊢;obtain⟨gg,hgg⟩:∃q,w.heap.size+1=q:=⟨_,rfl⟩
 rw[hgg]at H1⊢;have HAD:Hid (w.heap.size+1=gg/\gg+1=ff/\ff+1=kk/\kk+1=vi/\vi+1=D):=kH (by omega);have HR2:Hid (aX ⟨w.heap.size,D,gg,ff,kk,vi,none,0⟩ ⟨[],[],[]⟩ ⟨[],List.replicate 0 (-1),[],[],0,0⟩ ⟨none,0,none,0,[]⟩ w2):=kH (H1.out.below hb2);have HB2:Hid (Below w.heap.size w w2):=kH (HB1.out.trans (hb2.mono HB1.out.size));have wM:Hid (aj w2 w.heap.size 24 #[.int .i64 k0,.string x0,.int .i64 a0,.int .i64 z0,.slice A n0 c]):=kH (lV.out.below hb2 lV.out.lt);clear MB D8 hkk GK hgg hb2 Ua H1 HB1 lV;go_wp2_with fail
 go_loopg [21] N (fun gk Y8 wr=> ∃(j:Nat) (A1:Option Addr) (c1:Nat),Y8= .int .i64 (j:Int)/\j+gk=N/\Hid (aX ⟨w.heap.size,D,gg,ff,kk,vi,A1,c1⟩ ⟨[],[],[]⟩ ⟨[],List.replicate j (-1),[],[],0,0⟩ ⟨none,0,none,0,[]⟩ wr)/\Hid (Below w.heap.size w wr)/\Hid (aj wr w.heap.size 24 #[.int .i64 k0,.string x0,.int .i64 a0,.int .i64 z0,.slice A n0 c]))
 case atStart=>exact⟨0,none,0,rfl,by omega,HR2,HB2,wM⟩
 case round=>
  obtain⟨j,A1,c1,rfl,hj,I,n,lV⟩:=hrel;by_cases hlt:j<N
  ·have hlt':(j:Int)<(N:Int):=by omega
   have hw:IntKind.i64.wrap ((j:Int)+1)=(j:Int)+1:=IntWalk.i64_in _ (by omega);have c4:wr.cell? ⟨D,4,none⟩=some (.slice A1 j c1):=by have:=I.out.blk.cell 4;simpa using this
   have lr:D<wr.heap.size:=I.out.blk.lt;have ho:=I.out.us;simp only[List.length_replicate]at ho;have HO:=kH ho;clear ho;go_wp2_with (at_builtin;go_must (refine di _ rfl (.tmp 27) (.tmp 28) _ rfl w.heap.size 3 i0 _ 1 8 Tryz.underlying28 hi0 hz0 hz1 hz2 rfl (.slice A1 j c1) j (iB (List.replicate j (-1))) rfl (HO.out.alloc _) ⟨wr.heap.size,0,none⟩ 1 1 [.int .i64 (-1)] rfl rfl (wF _ _ _ (by go_simp)) (by simp[Value.oneCell']) (by simp only[maxLen];omega) (by omega) (by have:=n.out.size;simp;omega) ?_);intro vn w6 G Z hat;obtain⟨A6,c6,nC,-,-⟩:=G.shape;subst nC;have HOWN:=kH G;have qy:=kH Z;have zz:=aj.grown (aj.alloc I.out.blk _) Z (fun e1=>HO.out.cB I.out.blk (by decide) e1.symm);have q4:=zz.cell 4;have q5:=zz.frozen 4;have q6:=zz.lt;clear G Z hat zz)
   have hal:=I.out.below (ag wr (.cells #[.int .i64 (-1)] 3));have hpu:=hal.pushU rfl rfl (-1) (A3:=A6) (c3:=c6) (by simp only[List.length_replicate];exact HOWN.out) (by simp only[List.length_replicate];exact qy.out);have hrs:List.replicate j (-1:Int)++[-1]=List.replicate (j+1) (-1):=by rw[List.replicate_succ']
   have hpu1:=hpu.1;simp only[hrs,List.length_replicate]at hpu1;have HP:=kH hpu1
   have HPB:Hid (Below w.heap.size w (w6.setCell ⟨D,4,none⟩ (.slice A6 (j+1) c6))):=kH (by
    have h5:=hpu.2;simp only[List.length_replicate]at h5;have h6:Below w.heap.size (wr.alloc (.cells #[.int .i64 (-1)] 3)) (w6.setCell ⟨D,4,none⟩ (.slice A6 (j+1) c6)):=h5.toBelow (by have:=n.out.size;simp;omega) (fun g hg=>hg)
    exact(n.out.trans ((ag wr (.cells #[.int .i64 (-1)] 3)).mono n.out.size)).trans h6)
   have HPN:Hid (aj (w6.setCell ⟨D,4,none⟩ (.slice A6 (j+1) c6)) w.heap.size 24 #[.int .i64 k0,.string x0,.int .i64 a0,.int .i64 z0,.slice A n0 c]):=kH
    (((lV.out.alloc (.cells #[.int .i64 (-1)] 3)).grown qy.out (fun e1=>HO.out.cB lV.out (by decide) e1.symm)).far (p:=⟨D,4,none⟩) (by have:=HAD.out;show w.heap.size≠D;omega) _)
   clear hal hpu hpu1 hrs;go_roundg (gk - 1)
   case measure=>omega
   case rel=>exact⟨j+1,A6,c6,by simp,by omega,HP,HPB,HPN⟩
  ·have hjN:j=N:=by omega
   subst hjN;have hge:¬((j:Int)<(j:Int)):=by omega
   have m0:=lV.out.cell 0;have m1:=lV.out.cell 1;have m2:=lV.out.cell 2;have m3:=lV.out.cell 3;have m4:=lV.out.cell 4;have lm:=lV.out.lt;have hcol:=UF D gg ff kk w.heap.size _ _ _ _ _ _ wr I.out.blk ⟨I.out.gl,I.out.fl,I.out.kn⟩ (by have:=HAD.out;omega) (by have:=HAD.out;have:=n.out.size;omega) t A c (by rw[vQ.out];omega) (aJ.below n.out (aab _) _ _ _ HK.out);rw[FU.out]at hcol;have HCO:=kH hcol;clear hcol;go_wp2_with fail
   clear m0 m1 m2 m3 m4 lm;refine HCO.out.mono ?_;rintro e3 w3 ⟨rfl,hc3,hs3⟩;have HR3:=kH (I.out.collected hs3 hc3);have Lt:=kH (lV.out.since hs3 (by have:=HAD.out;omega));have HB3:Hid (Below w.heap.size w w3):=kH (n.out.trans (hs3.toBelow n.out.size (fun g hg=>by have:=HAD.out;omega)));have m0:=Lt.out.cell 0;have m1:=Lt.out.cell 1;have m2:=Lt.out.cell 2;have m3:=Lt.out.cell 3;have m4:=Lt.out.cell 4;have lm:=Lt.out.lt;obtain⟨V,K⟩:∃V:RS,(⟨[],List.replicate j (-1),[],[],0,0⟩:RS)=V:=⟨_,rfl⟩
   have hrb:RB V [] (ai t):=by
    rw[<- K,vQ.out];exact⟨aab _,aab _,aab _,(fun x hx=>by cases hx),(by simp),(by simpa using hN)⟩
   obtain⟨E,hE⟩:∃E:RC,(⟨w.heap.size,D,gg,ff,kk,vi,A1,c1⟩:RC)=E:=⟨_,rfl⟩
   have FI:E.base=w.heap.size:=by rw[<- hE]
   have hEr:E.rp=D:=by rw[<- hE]
   rw[K,hE]at HR3;have yK:=Y0 E (dO t) w.heap.size (by rw[FI];exact aab _) t false [] none [] V _ w3 A c HR3.out ⟨rfl,rfl⟩ ⟨List.nodup_nil,fun m hm=>by cases hm⟩ (aJ.below HB3.out (aab _) _ _ _ HK.out) HCAP.out (by rw[FI];exact HB3.out.size) HVO.out hrb
   have hres:dZ t= { (aM (dO t) false t [] V).1 with uses:=(aM (dO t) false t [] V).1.uses.map (oG (aM (dO t) false t [] V).1.ds),aR:=(aM (dO t) false t [] V).1.aR.map fun x=>(x.1,x.2.map (oG (aM (dO t) false t [] V).1.ds)) }:=by
    unfold dZ;rw[vQ.out,K]
   have Mx:=Ai (dO t) t false [] V;have hnle:=Iz (dO t) t false [] V;have KH:=nZ (dO t) t false [] V;have z:=Wu (dO t) t false [] V (by rw[<- K];exact List.nodup_nil);obtain⟨R,hR⟩:∃R,(aM (dO t) false t [] V).1=R:=⟨_,rfl⟩
   rw[hR]at yK hres Mx hnle KH z;rw[vQ.out]at hnle;have hr0n:V.next=0:=by rw[<- K]
   have J:R.ds.length<=1000000:=by
    have T:=Mx.ds;have h2:V.ds.length=0:=by rw[<- K];rfl
    omega
   have o7:R.aY.length<=1000000:=by
    have T:=Mx.aY;have h2:V.aY.length=0:=by rw[<- K];rfl
    omega
   have hnu:R.uses.length=j:=by rw[Mx.sU,<- K];simp
   have hrise:yR R.aY:=by
    obtain⟨l,e1,e2,-⟩:=KH.aY;rw[show V.aY=[] by rw[<- K],List.nil_append]at e1;rw[e1];exact e2
   rw[FU.out,hEr]at yK;have HVI:=kH yK;have aN:=kH hres;have HKEYS:=kH z;have HRISE:=kH hrise;have lh:=kH J;have mE:=kH o7;have Cf:=kH hnu;have U:Hid (E.base=w.heap.size/\E.rp=D/\E.vi=vi):=kH ⟨FI,hEr,by rw[<- hE]⟩;clear yK hres z hrise Mx hnle KH hrb hR hr0n J o7 hnu hE FI hEr K HR3 HCO;go_wp2_with fail
   clear m0 m1 m2 m3 m4 lm;refine HVI.out.mono ?_;rintro e4 w4 ⟨rfl,O,h4,-,k4⟩
   have oN:Hid (Below w.heap.size w w4):=kH (by
    have:=KX.low k4 (by rw[U.out.1];exact HB3.out.size);rw[U.out.1]at this
    exact HB3.out.trans this)
   have H4:=kH h4;clear h4 k4 HVI Lt HB3 lV n I;have c3:w4.cell? ⟨D,3,none⟩=some (.slice O.dA R.ds.length O.dc):=by have:=H4.out.blk.cell 3;rw[U.out.2.1]at this;exact this
   have lr4:D<w4.heap.size:=by have:=H4.out.blk.lt;rw[U.out.2.1]at this;exact this
   obtain⟨nd,J⟩:∃q,R.ds.length=q:=⟨_,rfl⟩
   rw[J]at c3;have HNDD:=kH J;obtain⟨dA,Sw⟩:∃q,O.dA=q:=⟨_,rfl⟩
   rw[Sw]at c3;have HDA:=kH Sw;have hndm:nd<=1000000:=by rw[<- J];exact lh.out
   clear J Sw;go_wp2_with (refine Be (KK:=kX) _ rfl _ _ _ 71 rfl 3 3 Tryz.underlying71 Tryz.underlying3 w4.heap.size [] (-1) (.int .i64 (-1)) rfl rfl rfl (bA.made w4) (ag w4 _) (aab _) ?_;intro w5 iC hb5;have d3:w5.cell? ⟨D,3,none⟩=some (.slice dA nd O.dc):=(hb5.cell (p:=⟨D,3,none⟩) lr4).trans c3;have HM5:=kH iC;have gG:=kH hb5;clear iC hb5)
   clear c3 d3 hmm;have HIX:Hid (w.heap.size<=w4.heap.size):=kH oN.out.size;obtain⟨M,hix⟩:∃q,w4.heap.size=q:=⟨_,rfl⟩
   rw[hix]at HM5 gG HIX⊢;have HIXE:=kH hix;clear hix;go_loopg [46] nd (fun gk s46 wr=> ∃i:Nat,s46= .int .i64 (i:Int)/\i+gk=nd/\Hid (bA kX wr M (vF (zM (R.ds.take i) 0 [(-1,-1)])))/\Hid (Below M w4 wr))
   case atStart=>exact⟨0,rfl,by omega,by have:=HM5.out;rw[List.take_zero];exact kH this,gG⟩
   case round=>
    obtain⟨i,rfl,hi,HM,HBx⟩:=hrel;by_cases hlt:i<nd
    ·have hlt':(i:Int)<(nd:Int):=by omega
     have hw:IntKind.i64.wrap ((i:Int)+1)=(i:Int)+1:=IntWalk.i64_in _ (by omega);obtain⟨d,hd⟩:∃d,R.ds[i]? =some d:=⟨_,aaf (by rw[HNDD.out];exact hlt)⟩
     have W:Below w4.heap.size w4 wr:=by rw[HIXE.out];exact HBx.out
     have Q:=(H4.out.ds.below W (fun g hg=>(H4.out.ds.lt g hg).2)).rowAt (cells:=dL) (l:=R.ds) rfl rfl (fun c _=>rfl) rfl;rw[HDA.out]at Q;obtain⟨b,B,hA,hbl,hcs⟩:=Q i d hd;subst hA;obtain⟨dk,dn,dv,dw⟩:=d;have t0:wr.cell? ⟨b,B+i*4,none⟩=some (.int .i64 dk):=by simpa using hcs 0 _ rfl
     have t1:wr.cell? ⟨b,B+i*4+1,none⟩=some (.string dn):=by simpa using hcs 1 _ rfl
     have t2:wr.cell? ⟨b,B+i*4+2,none⟩=some (.int .i64 dv):=by simpa using hcs 2 _ rfl
     have t3:wr.cell? ⟨b,B+i*4+3,none⟩=some (.int .i64 dw):=by simpa using hcs 3 _ rfl
     clear hcs Q W;obtain⟨w7,hrun,ja,hg7,hz7⟩:=fI (P:=Tryz.prog) (KK:=kX) (t:=71) (kt:=3) (et:=3) Tryz.underlying71 Tryz.underlying3 (HM.out.alloc (.cells #[.int .i64 dk,.string dn,.int .i64 dv,.int .i64 dw] 49)) dv (.int .i64 (i:Int));change (Instr.mapUpdate 71 (.map (some M)) (.int .i64 dv) (.int .i64 (i:Int))).run Tryz.prog (wr.alloc (.cells #[.int .i64 dk,.string dn,.int .i64 dv,.int .i64 dw] 49))=_ at hrun;rw[QR]at ja;have hs7:aF (fun g=>g=M) (wr.alloc (.cells #[.int .i64 dk,.string dn,.int .i64 dv,.int .i64 dw] 49)) w7:=(aF.refl _ _).grown hg7 (fun k hk=>by cases hk;exact .inl rfl);have hixw:M<=wr.heap.size:=by have:=HBx.out.size;rw[HIXE.out]at this;exact this
     have gK:Hid (Below M w4 w7):=kH ((HBx.out.trans ((ag wr _).mono hixw)).trans (hs7.toBelow (by simp;omega) (fun g hg=>by omega)))
     have HM7:Hid (bA kX w7 M (vF (zM (R.ds.take (i+1)) 0 [(-1,-1)]))):=kH (by
      rw[zh hd,OO]
      have:0+(R.ds.take i).length=i:=by
       have:=(aah.1 hd).1;simp;omega
      rw[this]
      exact ja)
     clear ja hg7 hz7 hs7 hixw hd;go_wp2_with fail
     go_roundg (gk - 1)
     case measure=>omega
     case rel=>exact⟨i+1,by simp,by omega,HM7,gK⟩
    ·have hin:i=nd:=by omega
     subst hin;have hge:¬((i:Int)<(i:Int)):=by omega
     have W:Below w4.heap.size w4 wr:=by rw[HIXE.out];exact HBx.out
     obtain⟨L,hL⟩:∃L,zM R.ds 0 [(-1,-1)]=L:=⟨_,rfl⟩
     have HF:Hid (∀u,(bE L u).getD 0=oG R.ds u):=kH (fun u=>by rw[<- hL];rfl)
     have HML:Hid (bA kX wr M (vF L)):=kH (by
      have:=HM.out;rw[List.take_of_length_le (by rw[HNDD.out];exact aab _),hL]at this
      exact this)
     obtain⟨F,hF⟩:∃F:Int->Int,oG R.ds=F:=⟨_,rfl⟩
     rw[hF]at HF aN;have HRU:Hid (aX E (dO t) { R with uses:=(R.uses.take 0).map F++R.uses.drop 0 } O wr):=kH (H4.out.below W);have mJ:Hid (Below w.heap.size w wr):=kH (oN.out.trans (W.mono oN.out.size));obtain⟨uA,huA⟩:∃q,E.uA=q:=⟨_,rfl⟩
     obtain⟨uc,huc⟩:∃q,E.uc=q:=⟨_,rfl⟩
     have c4:wr.cell? ⟨D,4,none⟩=some (.slice uA j uc):=by
      have:=(H4.out.below W).blk.cell 4;rw[U.out.2.1]at this;rw[<- huA,<- huc,<- Cf.out];exact this
     have lr:D<wr.heap.size:=by have:=(H4.out.below W).blk.lt;rw[U.out.2.1]at this;exact this
     have HUA:Hid (E.uA=uA/\E.uc=uc):=kH ⟨huA,huc⟩;clear hL hF W huA huc HM HBx;go_wp2_with fail
     clear c4;go_loopg [61] j (fun gk s61 wr=> ∃q:Nat,s61= .int .i64 (q:Int)/\q+gk=j/\Hid (aX E (dO t) { R with uses:=(R.uses.take q).map F++R.uses.drop q } O wr)/\Hid (bA kX wr M (vF L))/\Hid (Below w.heap.size w wr))
     case atStart=>exact⟨0,rfl,by omega,HRU,HML,mJ⟩
     case round=>
      obtain⟨q,rfl,hq,I,HMX,n⟩:=hrel;by_cases hlt2:q<j
      ·have hlt2':(q:Int)<(j:Int):=by omega
       have hw2:IntKind.i64.wrap ((q:Int)+1)=(q:Int)+1:=IntWalk.i64_in _ (by omega);obtain⟨u,hu⟩:∃u,R.uses[q]? =some u:=⟨_,aaf (by rw[Cf.out];exact hlt2)⟩
       obtain⟨hs1,r⟩:=QJ (F:=F) hu;have hdr:=I.out.below ((Below.refl _ wr).drew);have hll:((R.uses.take q).map F++R.uses.drop q).length=j:=by have:=Cf.out;simp;omega
       obtain⟨b,B,hA,hbl,-,hfz,S⟩:=hdr.yV q (by show q<((R.uses.take q).map F++R.uses.drop q).length;rw[hll];exact hlt2) (fun _=>False);rw[HUA.out.1]at hA;subst hA;obtain⟨b',off',cap',hv',-,-,XX,-,X⟩:=I.out.us.form (by show 0<((R.uses.take q).map F++R.uses.drop q).length;rw[hll];omega);have hA':some (⟨b,B,none⟩:Addr)=some ⟨b',off',none⟩:=by rw[<- HUA.out.1];injection hv'
       simp only[aag,Addr.mk.injEq,and_true]at hA';obtain⟨rfl,rfl⟩:=hA';have cu:wr.cell? ⟨b,B+q,none⟩=some (.int .i64 u):=X q _ (by show(iB ((R.uses.take q).map F++R.uses.drop q))[q]? =_;unfold iB;rw[List.getElem?_map,hs1];rfl);have fu:wr.frozen? ⟨b,B+q,none⟩=false:=hfz
       have c4:wr.cell? ⟨D,4,none⟩=some (.slice (some ⟨b,B,none⟩) j uc):=by
        have:=I.out.blk.cell 4;rw[U.out.2.1]at this;rw[<- HUA.out.1,<- HUA.out.2,<- hll];exact this
       have lr2:D<wr.heap.size:=by have:=I.out.blk.lt;rw[U.out.2.1]at this;exact this
       have lb2:b<wr.heap.size:=hbl;have EL:=uX wr.drew M L HMX.out.drew u;rw[HF.out u]at EL;have hixb:M≠b:=fun e1=>HMX.out.jl I.out.us (by rw[HUA.out.1];show some b=some M;rw[e1])
       have NZ:=kH (S (F u));have HS2:=kH r;have yz:=kH XX;obtain⟨y,hy⟩:∃y,F u=y:=⟨_,rfl⟩
       rw[hy]at NZ HS2 EL;have hq0:q<j:=hlt2;clear hs1 r hdr S X hv' XX hu hy hll hfz hbl;go_wp2_with fail
       refine eQ (fun w'=>w'.cell? ⟨D,4,none⟩=some (.slice (some ⟨b,B,none⟩) j uc)/\(Instr.lookup 71 (.map (some M)) (.int .i64 u) false).run Tryz.prog w'= .ok (.int .i64 y) w') [9] [true,true,true,true,true,true,true,true,true,false] (by kernel_rfl) (by kernel_rfl) rfl (by kernel_rfl) ?_;have hS0:wr.drew.cell? ⟨D,4,none⟩=some (.slice (some ⟨b,B,none⟩) j uc)/\(Instr.lookup 71 (.map (some M)) (.int .i64 u) false).run Tryz.prog wr.drew= .ok (.int .i64 y) wr.drew:=⟨c4,EL⟩
       iterate 9(refine ic rfl hS0 (by intro w' hSw;obtain⟨hs1,r⟩:=hSw;go_simp;rfl) ?_;simp only[Act.put,sA,sZ,sC])
       refine iU (w':=wr.drew.setCell ⟨b,B+q,none⟩ (.int .i64 y)) rfl (by go_simp) (by simp) ?_;refine jm ?_;simp only[Act.put]
       have Cb:Hid (aX E (dO t) { R with uses:=(R.uses.take (q+1)).map F++R.uses.drop (q+1) } O (wr.drew.setCell ⟨b,B+q,none⟩ (.int .i64 y))):=kH (by
        have:=NZ.out.1;rw[HS2.out]at this
        exact this)
       have zH:Hid (bA kX (wr.drew.setCell ⟨b,B+q,none⟩ (.int .i64 y)) M (vF L)):=kH (HMX.out.drew.setCell (p:=⟨b,B+q,none⟩) hixb _);have iQ:Hid (Below w.heap.size w (wr.drew.setCell ⟨b,B+q,none⟩ (.int .i64 y))):=kH ((n.out.drew).setCell (p:=⟨b,B+q,none⟩) (by have:=yz.out;rw[U.out.1]at this;exact this) _);clear hS0 EL c4 cu fu NZ HS2;go_wp2_with fail
       go_roundg (gk - 1)
       case measure=>omega
       case rel=>exact⟨q+1,by simp,by omega,Cb,zH,iQ⟩
      ·have hqj:q=j:=by omega
       subst hqj;have hge2:¬((q:Int)<(q:Int)):=by omega
       have c5:wr.cell? ⟨D,5,none⟩=some (.map (some vi)):=by
        have:=I.out.blk.cell 5;rw[U.out.2.1,U.out.2.2]at this;exact this
       have lr2:D<wr.heap.size:=by have:=I.out.blk.lt;rw[U.out.2.1]at this;exact this
       have D8:=I.out.vi;rw[U.out.2.2]at D8;have hkv:O.vals.map (·.1)=R.aR.map (·.1):=fG.keys I.out.aR;obtain⟨w8,ZN,hit8,dU,RI⟩:=Bq (P:=Tryz.prog) (t:=72) (kt:=3) (et:=28) Tryz.underlying72 D8;have HIT8:=kH hit8
       have FR:Hid (aX E (dO t) { R with uses:=R.uses.map F,aR:=Bf F (fun _=>true) R.aR } O w8):=kH (by
        have:=I.out.below dU;rw[List.take_of_length_le (by rw[Cf.out];exact aab _),List.drop_eq_nil_of_le (by rw[Cf.out];exact aab _),List.append_nil]at this;rw[Wx]
        exact this)
       have HM8:Hid (bA kX w8 M (vF L)):=kH (HMX.out.JC dU);have vE:Hid (Below w.heap.size w w8):=kH (n.out.trans (dU.mono n.out.size));have HKV:=kH hkv;have hvil:=D8.lt;have HWS:Hid (w.heap.size<=wr.heap.size):=kH n.out.size;clear D8 hkv hit8 dU RI;go_wp2_with fail
       obtain⟨it,zP⟩:∃it,wr.heap.size=it:=⟨_,rfl⟩
       rw[zP]at HIT8 hvil HWS⊢;clear c5 zP;go_loopg [] R.aR.length (fun gk wx=> ∃(left:List (Value×Value)) (f:Int->Bool),gk=left.length/\Hid (nz kX wx vi it O.vals left)/\Hid (aX E (dO t) { R with uses:=R.uses.map F,aR:=Bf F f R.aR } O wx)/\Hid (bA kX wx M (vF L))/\Hid (Below w.heap.size w wx)/\Hid ((left.map (·.1)).Nodup/\∀k∈R.aR.map (·.1),(f k=true↔Value.int .i64 k∈left.map (·.1))))
       case atStart=>
        refine⟨_,fun _=>true,?_,HIT8,FR,HM8,vE,kH ⟨?_,fun k hk=>?_⟩⟩
        ·have:=congrArg List.length HKV.out
         simp at this;simp;omega
        ·rw[List.map_map]
         have e1:(O.vals.map ((fun x=>x.1) ∘ fun x:Int×Value=>(kX.qz x.1,x.2)))=(O.vals.map (·.1)).map (fun k=>Value.int .i64 k):=by rw[List.map_map];rfl
         rw[e1,HKV.out];exact List.Pairwise.map _ (fun a b hab e2=>hab (by injection e2)) HKEYS.out
        ·rw[<- HKV.out]at hk
         obtain⟨y,hy,rfl⟩:=List.mem_map.1 hk;exact⟨fun _=>List.mem_map.2 ⟨_,List.mem_map.2 ⟨y,hy,rfl⟩,rfl⟩,fun _=>rfl⟩
       case round=>
        obtain⟨left,f,hgl,HI,gY,HMY,PI,HFF⟩:=hrel;rcases Da (P:=Tryz.prog) 0 HI.out (by omega) with⟨hl0,hnx⟩| ⟨kv,vv,C,w9,v,hmem,hnx,hit9,XO,hsz9,hent⟩
        ·subst hl0
         have hvp:Bf F f R.aR=R.aR.map fun x=>(x.1,x.2.map F):=visP_end (fun k hk=>by
          have h:=HFF.out.2 k hk
          cases hf:f k with
          | false=>rfl
          | true=>exact absurd (h.1 hf) (by simp))
         have Q:=gY.out.ps.rowAt (cells:=iM) (l:=R.aY) rfl rfl (fun c _=>rfl) rfl;obtain⟨np,o7⟩:∃q,R.aY.length=q:=⟨_,rfl⟩
         have c6:wr.cell? ⟨D,6,none⟩=some (.slice O.pA np O.pc):=by
          have:=gY.out.blk.cell 6;rw[U.out.2.1]at this;rw[<- o7];exact this
         have qN:D<wr.heap.size:=by have:=gY.out.blk.lt;rw[U.out.2.1]at this;exact this
         have hsrt:=NG R.aY O.pA np O.pc wr o7 Q HRISE.out (by rw[<- o7];exact mE.out);have HSRT:=kH hsrt;have HVP:=kH hvp;clear hvp Q o7 hsrt;go_wp2_with fail
         refine HSRT.out.mono ?_;rintro e10 aV ⟨rfl,jg⟩;have aO:Hid (TA t w (.returned (.pointer (some ⟨D,0,none⟩))) aV):=kH ⟨E,O,by rw[U.out.2.1],U.out.1,by rw[aN.out,<- HVP.out];exact gY.out.below jg,PI.out.trans (jg.mono PI.out.size)⟩;clear jg c6;go_wp2_with fail
         go_ret
         exact aO.out
        ·obtain⟨y,hy,he⟩:=List.mem_map.1 hmem
         obtain⟨k1,v0⟩:=y;simp only[Prod.mk.injEq]at he;obtain⟨rfl,rfl⟩:=he;obtain⟨v1,v2,hsp⟩:=List.append_of_mem hy;obtain⟨oa,ob,oc,od,hio⟩:=HI.out.obj;have Js:=gY.out.sinceO XO (fun g cs t fr hg e=>by subst e;rw[hio]at hg;cases hg) (fun g es ck hg e=>by subst e;rw[hio]at hg;cases hg);obtain⟨l1,lx,l2,yK,G,hupd⟩:=Js.setVis hsp;have hk1:k1∈R.aR.map (·.1):=by rw[<- HKV.out];exact List.mem_map.2 ⟨_,hy,rfl⟩
         have hpk:(left.map (·.1)).Perm (Value.int .i64 k1::C.map (·.1)):=v.map (·.1);have hfk:f k1=true:=(HFF.out.2 k1 hk1).2 (hpk.mem_iff.2 (by simp));have hstep:=Y1 HKEYS.out yK hfk;obtain⟨A8,c8,ed,hc8,dY⟩:=G.shape;obtain⟨n8,hn8⟩:∃q,lx.length=q:=⟨_,rfl⟩
         rw[hn8]at ed G hc8;subst ed;have hn8m:n8<=maxLen:=aac hc8 dY;simp only[maxLen]at hn8m
         have hixi:M≠it:=fun e=>by
          obtain⟨es,ck,ho⟩:=HMY.out.isMap;rw[e,hio]at ho;cases ho
         have HM9:Hid (bA kX w9 M (vF L)):=kH (HMY.out.since XO hixi);have Ah:Hid (Below w.heap.size w w9):=kH (PI.out.trans (XO.toBelow PI.out.size (fun g e=>by rw[e];exact HWS.out)))
         have HFF':Hid ((C.map (·.1)).Nodup/\∀k∈R.aR.map (·.1),((f k&&decide (k≠k1))=true↔Value.int .i64 k∈C.map (·.1))):=kH (by
          have J:=hpk.nodup_iff.1 HFF.out.1;rw[List.nodup_cons]at J;refine⟨J.2,fun k hk=>?_⟩;rw[aad,decide_eq_true_eq,HFF.out.2 k hk,hpk.mem_iff,List.mem_cons];constructor
          ·rintro⟨T|T,h2⟩
           ·exact absurd (by injection T) h2
           ·exact T
          ·intro T
           exact⟨.inr T,fun e=>J.1 (by rw[<- e];exact T)⟩)
         have HST:=kH hstep;have HUPD:=kH hupd;have HOW:=kH G;have TW:=kH hit9;have Nn:=kH v;have Hz:=kH hn8;have Wj:Hid (E.base=w.heap.size/\w.heap.size<=w9.heap.size):=kH ⟨U.out.1,Ah.out.size⟩;clear hmem hy hsp hio Js yK G hupd hk1 hpk hfk hstep hc8 dY hn8 hixi hit9 v XO hsz9;go_wp2_with fail
         obtain⟨go,hgo⟩:∃go:Nat,go=gk:=⟨_,rfl⟩
         subst hgo;obtain⟨wo,hwo⟩:∃wo:World,wo=wr:=⟨_,rfl⟩
         subst hwo;go_loopg [87] n8 (fun gk s87 wy=> ∃H:Nat,s87= .int .i64 (H:Int)/\H+gk=n8/\Hid (aK wy E.base 3 1 (.slice A8 n8 c8) n8 (iB ((lx.take H).map F++lx.drop H)))/\Hid (aF (fun g=>(Value.slice A8 n8 c8).ownBlock=some g) w9 wy))
         case atStart=>exact⟨0,rfl,by omega,by simpa using HOW,kH (aF.refl _ _)⟩
         case round=>
          obtain⟨H,rfl,hq2,HOy,VJ⟩:=hrel;have hmy:bA kX wr M (vF L):=HM9.out.since VJ.out (fun T=>HM9.out.jl HOW.out T);have HMYY:=kH hmy;by_cases hlt3:H<n8
          ·have hlt3':(H:Int)<(n8:Int):=by omega
           have hw3:IntKind.i64.wrap ((H:Int)+1)=(H:Int)+1:=IntWalk.i64_in _ (by omega);obtain⟨u,hu⟩:∃u,lx[H]? =some u:=⟨_,aaf (by rw[Hz.out];exact hlt3)⟩
           obtain⟨hs1,r⟩:=QJ (F:=F) hu;obtain⟨b,B,cap',hv',-,-,XX,hbl,X⟩:=HOy.out.form (by omega);simp only[Value.slice.injEq,true_and]at hv';obtain⟨rfl,rfl⟩:=hv';have cu:wr.cell? ⟨b,B+H,none⟩=some (.int .i64 u):=X H _ (by unfold iB;rw[List.getElem?_map,hs1];rfl)
           have fu:wr.frozen? ⟨b,B+H,none⟩=false:=by
            obtain⟨cur,hc⟩:=HOy.out.obj b rfl;simp[World.frozen?,hc]
           have EL:=uX wr M L HMYY.out u;rw[HF.out u]at EL;obtain⟨y,hy⟩:∃y,F u=y:=⟨_,rfl⟩
           rw[hy]at EL r;have S:=HOy.out.set1 H hlt3 (.int .i64 y)
           have Vm:(iB ((lx.take H).map F++lx.drop H)).set H (.int .i64 y)=iB ((lx.take (H+1)).map F++lx.drop (H+1)):=by
            rw[<- r];simp[iB,List.map_set]
           rw[Vm]at S;have Cb:=kH S;have zH:Hid (aF (fun g=>(Value.slice (some ⟨b,B,none⟩) n8 c8).ownBlock=some g) w9 (wr.setCell ⟨b,B+H,none⟩ (.int .i64 y))):=kH (VJ.out.setCell (p:=⟨b,B+H,none⟩) (.inl rfl) _);clear hs1 r XX X hy S Vm hu hmy;go_wp2_with fail
           go_roundg (gk - 1)
           case measure=>omega
           case rel=>exact⟨H+1,by simp,by omega,Cb,zH⟩
          ·have hqn:H=n8:=by omega
           subst hqn;have hge3:¬((H:Int)<(H:Int)):=by omega
           have Cb:Hid (aX E (dO t) { R with uses:=R.uses.map F,aR:=Bf F (fun j=>f j&&decide (j≠k1)) R.aR } O wr):=kH (by
            rw[HST.out];refine HUPD.out (lx.map F) wr ?_ VJ.out;have:=HOy.out;rw[List.take_of_length_le (by rw[Hz.out];exact aab _),List.drop_eq_nil_of_le (by rw[Hz.out];exact aab _),List.append_nil]at this;rw[List.length_map,Hz.out]
            exact this)
           have zH:Hid (nz kX wr vi it O.vals C):=kH (TW.out.keep (VJ.out.block vi TW.out.oP.lt (fun T=>TW.out.oP.jl HOW.out T)) (VJ.out.block it (by obtain⟨_,_,_,_,T⟩:=TW.out.obj;exact(aae.1 T).1) (fun T=>TW.out.jl HOW.out T)));have iQ:Hid (Below w.heap.size w wr):=kH (Ah.out.trans (VJ.out.toBelow Wj.out.2 (fun g hg=>by have:=(HOW.out.lt g hg).1;rw[Wj.out.1]at this;exact this)));clear hmy;go_wp2_with fail
           go_roundg (go - 1)
           case measure=>have h9:left.length=C.length+1:=Nn.out.length_eq;omega
           case rel=>exact⟨C,fun j=>f j&&decide (j≠k1),by have h9:left.length=C.length+1:=Nn.out.length_eq;omega,zH,Cb,HMYY,iQ,HFF'⟩
end Go.Proofs.YtoepemlnlpamlaaGreat
