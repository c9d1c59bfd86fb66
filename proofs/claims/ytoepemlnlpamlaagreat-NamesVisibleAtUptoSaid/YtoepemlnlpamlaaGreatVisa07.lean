/- The law NamesVisibleAt holds where what it reads is of bulk at most 1048576: it returns true, and its arguments read as before. Part 7: Par6 Par7 Par8 Par9 ParA. -/
import Derived.Test.YtoepemlnlpamlaaGreatVisa06
set_option maxRecDepth 100000
set_option maxHeartbeats 4000000
namespace Go.Proofs.YtoepemlnlpamlaaGreat
open Go.RowKit
theorem xA(E:PE)(X:E.Ok)(v:PV)(w:World)(S:PW w E v):Calls Tryz.prog 130 #[.pointer (some ⟨E.gp,0,none⟩)] w (bD E w v (jR E.bs E.l v.st)):=by
 have P:=S.blk.lt;go_in
 go_wp2_with fail
 generalize D:w.alloc (.cells #[.int .i64 0,.string ⟨#[]⟩,.int .i64 0,.int .i64 0,.slice none 0 0] 24)=W1
 have I:Below w.heap.size w W1:=by rw[<- D];exact ag _ _
 have b:aj W1 w.heap.size 24 #[.int .i64 0,.string ⟨#[]⟩,.int .i64 0,.int .i64 0,.slice none 0 0]:=by rw[<- D];exact aj.new w _ _
 have T:W1.heap.size=w.heap.size+1:=by rw[<- D];simp
 have K:=PM.of_below (E:=E) (v:=v) I;have W:=S.below I;have f:=K;have pR:=kH T;have jK:=kH K;clear D T K I;by_cases G:bF E.bs E.l v.st [58]=true
 ·have y:Hid (jR E.bs E.l v.st=uC E.bs E.l (aB E.l v.st)):=kH (by unfold jR;rw[if_pos G])
  have Y:Hid (bI E.bs E.l v.st [58]=aB E.l v.st):=kH (by unfold bI;rw[if_pos G]);have Z:=kH G;clear G;refine(gm E X v [58] _ W).mono ?_;rintro e w2 ⟨rfl,F,C,M,A⟩;rw[Z.out];have L:=kH C;have B:=A.blk W b;have z:=f.trans A;clear C A;rw[Y.out]at L;go_wp2_with fail
  refine(typ_any E X F _ M).mono ?_;rintro e w3 ⟨k3,t3,a3,z3,A3,n3,c3,rfl,H,v3,U,x,d⟩;have c:=kH U;have N:=d.blk M B;have P3:=z.trans d;replace H:=aC.weak (Q:=fun g=>w.heap.size+1<=g) (fun g _ hg=>aac B.lt hg) _ _ H
  clear U;rw[L.out]at c H;obtain⟨⟨t,q,n,m,j⟩,g0,g1,g2,g3,g4⟩:=N.five;go_wp2_with fail
  have V:=kH (bJ (v:=v) x P3 rfl N P H);clear H;rw[c.out]at V;refine bodyPost_ret (v:=.agg #[.int .i64 k3,.string t3,.int .i64 a3,.int .i64 z3,.slice A3 n3 c3]) (by simp[results,Tryz.results130,go_sem,t,q,n,m,j]) rfl ?_;try rw[y.out]
  exact V.out
 ·have O:bF E.bs E.l v.st [58]=false:=by simpa using G
  have y:Hid (jR E.bs E.l v.st=(aI E.l v.st v.st.k 0 [] [],v.st)):=kH (by unfold jR;rw[if_neg G]);have Y:Hid (bI E.bs E.l v.st [58]=v.st):=kH (by unfold bI;rw[if_neg G]);have Z:=kH O;clear G O;refine(gm E X v [58] _ W).mono ?_;rintro e w2 ⟨rfl,F,C,M,A⟩;rw[Z.out];have L:=kH C;have B:=A.blk W b;have z:=f.trans A;clear C A;rw[Y.out]at L;have u:w2.cell? ⟨E.gp,2,none⟩=some (.int .i64 (F.st.k:Int)):=M.blk.cell 2;have R:F.st.k=v.st.k:=by rw[L.out]
  rw[R]at u;clear R;go_wp2_with fail
  refine(iK E X F _ M v.st.k 0 [] (w.heap.size+1)).mono ?_;rintro e w3 ⟨rfl,J,H⟩;have x:=M.below J;have N:=B.below J B.lt;obtain⟨⟨t,q,n,m,j⟩,g0,g1,g2,g3,g4⟩:=N.five;go_wp2_with fail
  have V:=kH (bJ (v:=v) x (z.trans (PM.of_below J)) rfl N P H);clear H;refine bodyPost_ret (v:=.agg #[.int .i64 0,.string (bf []),.int .i64 (bP E.l F.st v.st.k []),.int .i64 (F.st.last:Int),.slice none 0 0]) (by simp[results,Tryz.results130,go_sem,t,q,n,m,j]) rfl ?_;exact Eq.mp (congrArg (fun r=>bD E w v r _ _) (show(aI E.l F.st v.st.k 0 [] [],F.st)=_ by rw[L.out,y.out])) V.out
theorem F8(E:PE)(P:E.Ok)(v:PV)(w:World)(G:PW w E v):Calls Tryz.prog 187 #[.pointer (some ⟨E.gp,0,none⟩)] w (bD E w v (nR E.bs E.l v.st)):=by
 have L:=G.blk.lt;have X:w.cell? ⟨E.gp,2,none⟩=some (.int .i64 (v.st.k:Int)):=G.blk.cell 2;go_in
 go_wp2_with fail
 generalize A:w.alloc (.cells #[.int .i64 0,.string ⟨#[]⟩,.int .i64 0,.int .i64 0,.slice none 0 0] 24)=W1
 have B:Below w.heap.size w W1:=by rw[<- A];exact ag _ _
 have Y:aj W1 w.heap.size 24 #[.int .i64 0,.string ⟨#[]⟩,.int .i64 0,.int .i64 0,.slice none 0 0]:=by rw[<- A];exact aj.new w _ _
 have I:W1.heap.size=w.heap.size+1:=by rw[<- A];simp
 have D:=PM.of_below (E:=E) (v:=v) B;have N:=G.below B;have R:=D;have f:=kH I;have g:=kH D;clear A I D B;have T:Hid (nR E.bs E.l v.st=(aI E.l (dK E.l v.st) v.st.k 20 (cK E.bs E.l v.st) [],dK E.l v.st)):=kH rfl;refine(uF E P v _ N).mono ?_;rintro e d ⟨rfl,K,J,O,F⟩;have V:=kH J;have H:=F.blk N Y;have S:=R.trans F;clear J F;go_wp2_with fail
 refine(iK E P K _ O v.st.k 20 (cK E.bs E.l v.st) (w.heap.size+1)).mono ?_;rintro e c ⟨rfl,C,Q⟩;have W:=O.below C;have M:=H.below C H.lt;obtain⟨⟨Z,z,y,x,u⟩,t,q,n,m,j⟩:=M.five;go_wp2_with fail
 have U:=kH (bJ (v:=v) W (S.trans (PM.of_below C)) rfl M L Q);clear Q;refine bodyPost_ret (v:=.agg #[.int .i64 20,.string (bf (cK E.bs E.l v.st)),.int .i64 (bP E.l K.st v.st.k []),.int .i64 (K.st.last:Int),.slice none 0 0]) (by simp[results,Tryz.results187,go_sem,Z,z,y,x,u]) rfl ?_;exact Eq.mp (congrArg (fun r=>bD E w v r _ _) (show(aI E.l K.st v.st.k 20 (cK E.bs E.l v.st) [],K.st)=_ by rw[V.out,T.out])) U.out
theorem dV(E:PE)(F:E.Ok)(v:PV)(w:World)(B:PW w E v)(first:Nat)(kind:Int)(t:bB)(lo:Nat)(A:Option Addr)(n c:Nat)(ts:List ae)(D:bY w lo (.slice A n c) n ts):
 Calls Tryz.prog 71 #[.pointer (some ⟨E.gp,0,none⟩),.int .i64 (first:Int),.int .i64 kind,.string (bf t),.slice A n c] w fun e w'=>e= .returned (.agg #[.int .i64 kind,.string (bf t),.int .i64 (bP E.l v.st first ts),.int .i64 (v.st.last:Int),.slice A n c])/\Below w.heap.size w w'/\aC w' (fun g=>lo<=g) (aI E.l v.st first kind t ts) [.int .i64 kind,.string (bf t),.int .i64 (bP E.l v.st first ts),.int .i64 (v.st.last:Int),.slice A n c]:=by
 refine(Kt E F v w B first kind t lo A n c ts D).mono ?_;rintro e w' ⟨rfl,C⟩;exact⟨rfl,C,(D.keeps (bZ.of_below C)).node _ _ _ _⟩
theorem Kw{w:World}{lo:Nat}{ts:List ae}{vals:List (List Value)}(h:bW w (fun g=>lo<=g) ts vals)(A:lo<=w.heap.size)(G:ts.length<=1000):
 bY (w.alloc (.cells (List.flatten vals).toArray 24)) lo (.slice (some ⟨w.heap.size,0,none⟩) ts.length ts.length) ts.length ts:=by
 have E:=(bW.lens h).2;refine⟨vals,?_,?_,rfl⟩
 ·have:=aK.block (base:=lo) (e:=24) (size:=5) (n:=ts.length) A (aj.new w 24 (List.flatten vals).toArray) (by simp only[maxLen];omega) (by simpa using E)
  simpa using this
 ·refine bW.keeps (w:=w) (fun g _ _ D=>Below.heap_alloc w _ g (aae.1 D).1) _ _ (bW.weak (fun g F C=>⟨C,fun B=>?_⟩) _ _ h)
  have:g=w.heap.size:=by simpa [Value.ownBlock] using B
  omega
theorem j5{w:World}{lo:Nat}{t:ae}{a b c d e:Value}(h:aC w (fun g=>lo<=g) t [a,b,c,d,e])(A:lo<=w.heap.size):
 bY (w.alloc (.cells #[a,b,c,d,e] 24)) lo (.slice (some ⟨w.heap.size,0,none⟩) 1 1) 1 [t]:=
 Kw (ts:=[t]) (vals:=[[a,b,c,d,e]]) ⟨_,_,rfl,h,rfl⟩ A (by simp)
theorem Fw(E:PE)(W:E.Ok)(v:PV)(w:World)(z:PW w E v):Calls Tryz.prog 181 #[.pointer (some ⟨E.gp,0,none⟩)] w (bD E w v (iO E.bs E.l v.st)):=by
 have hgl:=z.blk.lt;have hk2:w.cell? ⟨E.gp,2,none⟩=some (.int .i64 (v.st.k:Int)):=z.blk.cell 2;go_in
 go_wp2_with fail
 generalize K:w.alloc (.cells #[.int .i64 0,.string ⟨#[]⟩,.int .i64 0,.int .i64 0,.slice none 0 0] 24)=W1
 have X:Below w.heap.size w W1:=by rw[<- K];exact ag _ _
 have iE:aj W1 w.heap.size 24 #[.int .i64 0,.string ⟨#[]⟩,.int .i64 0,.int .i64 0,.slice none 0 0]:=by rw[<- K];exact aj.new w _ _
 have hs1:W1.heap.size=w.heap.size+1:=by rw[<- K];simp
 have Y:=PM.of_below (E:=E) (v:=v) X;have h1:=z.below X;have P1:=Y;have pR:=kH hs1;have jK:=kH Y;clear K hs1 Y X;obtain⟨bv,hbv⟩:∃x,bF E.bs E.l v.st [118,97,114]=x:=⟨_,rfl⟩
 have O:=kH hbv;clear hbv;refine(gm E W v [118,97,114] _ h1).mono ?_;rintro e w2 ⟨rfl,v2,hv2,h2,Z⟩;rw[O.out];have fU:=kH hv2;have hR2:=Z.blk h1 iE;have P2:=P1.trans Z;clear hv2 Z;cases bv
 ·have aN:Hid (iO E.bs E.l v.st=(aI E.l (jR E.bs E.l (dK E.l (bI E.bs E.l v.st [118,97,114]))).2 v.st.k 7 (cK E.bs E.l (bI E.bs E.l v.st [118,97,114])) [(jR E.bs E.l (dK E.l (bI E.bs E.l v.st [118,97,114]))).1],(jR E.bs E.l (dK E.l (bI E.bs E.l v.st [118,97,114]))).2)):=kH (by unfold iO;rw[O.out];rfl)
  go_wp2_with fail
  refine(uF E W v2 _ h2).mono ?_;rintro e w3 ⟨rfl,v3,H,h3,T⟩;have b:=kH H;have f:=T.blk h2 hR2;have P3:=P2.trans T;clear H T;have F:cK E.bs E.l v2.st=cK E.bs E.l (bI E.bs E.l v.st [118,97,114]):=by rw[fU.out]
  rw[F];rw[fU.out]at b;clear F;go_wp2_with fail
  refine(xA E W v3 _ h3).mono ?_;rintro e D ⟨u,q,P,n,N,t,R,rfl,M,v4,I,h4,iD⟩;have y:=kH I;have d:=iD.blk h3 f;have P4:=P3.trans iD;replace M:=aC.weak (Q:=fun g=>w.heap.size+1<=g) (fun g _ hg=>aac f.lt hg) _ _ M
  clear I;rw[b.out]at y M;go_wp2_with fail
  generalize L:D.alloc (.cells #[.int .i64 u,.string q,.int .i64 P,.int .i64 n,.slice N t R] 24)=w5
  have A:Below D.heap.size D w5:=by rw[<- L];exact ag _ _
  have G:w5.heap.size=D.heap.size+1:=by rw[<- L];simp
  have BJ:aj w5 D.heap.size 24 #[.int .i64 u,.string q,.int .i64 P,.int .i64 n,.slice N t R]:=by rw[<- L];exact aj.new D _ _
  have jU:=aC.keeps (bZ.of_below A) _ _ M;have h5:=h4.below A;have U:=d.below A d.lt;have P5:=P4.trans (PM.of_below A);clear L;have m:=kH (j5 jU (by have:=U.lt;omega));generalize uJ:w5.alloc (.cells #[.int .i64 u,.string q,.int .i64 P,.int .i64 n,.slice N t R] 24)=w6 at m⊢
  have B:Below w5.heap.size w5 w6:=by rw[<- uJ];exact ag _ _
  have V:=h5.below B;have gI:=U.below B U.lt;have j:=P5.trans (PM.of_below B);clear uJ;obtain⟨C,J⟩:∃C,C=v4:=⟨_,rfl⟩
  rw[<- J]at V j y;have lU:=y;rw[<- G];clear J BJ G;refine(dV E W C _ V v.st.k 7 (cK E.bs E.l (bI E.bs E.l v.st [118,97,114])) (w.heap.size+1) (some ⟨w5.heap.size,0,none⟩) 1 1 [(jR E.bs E.l (dK E.l (bI E.bs E.l v.st [118,97,114]))).1] m.out).mono ?_;rintro e w7 ⟨rfl,S,lQ⟩;have h7:=V.below S;have c:=gI.below S gI.lt;obtain⟨⟨r0,r1,r2,r3,r4⟩,g0,g1,g2,g3,g4⟩:=c.five;go_wp2_with fail
  have aO:=kH (bJ (v:=v) h7 (j.trans (PM.of_below S)) rfl c hgl lQ);clear lQ;refine bodyPost_ret (v:=.agg #[.int .i64 7,.string (bf (cK E.bs E.l (bI E.bs E.l v.st [118,97,114]))),.int .i64 (bP E.l C.st v.st.k [(jR E.bs E.l (dK E.l (bI E.bs E.l v.st [118,97,114]))).1]),.int .i64 (C.st.last:Int),.slice (some ⟨w5.heap.size,0,none⟩) 1 1]) (by simp[results,Tryz.results181,go_sem,r0,r1,r2,r3,r4]) rfl ?_;exact Eq.mp (congrArg (fun r=>bD E w v r _ _) (show(aI E.l C.st v.st.k 7 (cK E.bs E.l (bI E.bs E.l v.st [118,97,114])) [(jR E.bs E.l (dK E.l (bI E.bs E.l v.st [118,97,114]))).1],C.st)=_ by rw[aN.out,lU.out])) aO.out
 ·have aN:Hid (iO E.bs E.l v.st=(aI E.l (jR E.bs E.l (dK E.l (bI E.bs E.l v.st [118,97,114]))).2 v.st.k 8 (cK E.bs E.l (bI E.bs E.l v.st [118,97,114])) [(jR E.bs E.l (dK E.l (bI E.bs E.l v.st [118,97,114]))).1],(jR E.bs E.l (dK E.l (bI E.bs E.l v.st [118,97,114]))).2)):=kH (by unfold iO;rw[O.out];rfl)
  go_wp2_with fail
  refine(uF E W v2 _ h2).mono ?_;rintro e w3 ⟨rfl,v3,H,h3,T⟩;have b:=kH H;have f:=T.blk h2 hR2;have P3:=P2.trans T;clear H T;have F:cK E.bs E.l v2.st=cK E.bs E.l (bI E.bs E.l v.st [118,97,114]):=by rw[fU.out]
  rw[F];rw[fU.out]at b;clear F;go_wp2_with fail
  refine(xA E W v3 _ h3).mono ?_;rintro e D ⟨u,q,P,n,N,t,R,rfl,M,v4,I,h4,iD⟩;have y:=kH I;have d:=iD.blk h3 f;have P4:=P3.trans iD;replace M:=aC.weak (Q:=fun g=>w.heap.size+1<=g) (fun g _ hg=>aac f.lt hg) _ _ M
  clear I;rw[b.out]at y M;go_wp2_with fail
  generalize L:D.alloc (.cells #[.int .i64 u,.string q,.int .i64 P,.int .i64 n,.slice N t R] 24)=w5
  have A:Below D.heap.size D w5:=by rw[<- L];exact ag _ _
  have G:w5.heap.size=D.heap.size+1:=by rw[<- L];simp
  have BJ:aj w5 D.heap.size 24 #[.int .i64 u,.string q,.int .i64 P,.int .i64 n,.slice N t R]:=by rw[<- L];exact aj.new D _ _
  have jU:=aC.keeps (bZ.of_below A) _ _ M;have h5:=h4.below A;have U:=d.below A d.lt;have P5:=P4.trans (PM.of_below A);clear L;have m:=kH (j5 jU (by have:=U.lt;omega));generalize uJ:w5.alloc (.cells #[.int .i64 u,.string q,.int .i64 P,.int .i64 n,.slice N t R] 24)=w6 at m⊢
  have B:Below w5.heap.size w5 w6:=by rw[<- uJ];exact ag _ _
  have V:=h5.below B;have gI:=U.below B U.lt;have j:=P5.trans (PM.of_below B);clear uJ;obtain⟨C,J⟩:∃C,C=v4:=⟨_,rfl⟩
  rw[<- J]at V j y;have lU:=y;rw[<- G];clear J BJ G;refine(dV E W C _ V v.st.k 8 (cK E.bs E.l (bI E.bs E.l v.st [118,97,114])) (w.heap.size+1) (some ⟨w5.heap.size,0,none⟩) 1 1 [(jR E.bs E.l (dK E.l (bI E.bs E.l v.st [118,97,114]))).1] m.out).mono ?_;rintro e w7 ⟨rfl,S,lQ⟩;have h7:=V.below S;have c:=gI.below S gI.lt;obtain⟨⟨r0,r1,r2,r3,r4⟩,g0,g1,g2,g3,g4⟩:=c.five;go_wp2_with fail
  have aO:=kH (bJ (v:=v) h7 (j.trans (PM.of_below S)) rfl c hgl lQ);clear lQ;refine bodyPost_ret (v:=.agg #[.int .i64 8,.string (bf (cK E.bs E.l (bI E.bs E.l v.st [118,97,114]))),.int .i64 (bP E.l C.st v.st.k [(jR E.bs E.l (dK E.l (bI E.bs E.l v.st [118,97,114]))).1]),.int .i64 (C.st.last:Int),.slice (some ⟨w5.heap.size,0,none⟩) 1 1]) (by simp[results,Tryz.results181,go_sem,r0,r1,r2,r3,r4]) rfl ?_;exact Eq.mp (congrArg (fun r=>bD E w v r _ _) (show(aI E.l C.st v.st.k 8 (cK E.bs E.l (bI E.bs E.l v.st [118,97,114])) [(jR E.bs E.l (dK E.l (bI E.bs E.l v.st [118,97,114]))).1],C.st)=_ by rw[aN.out,lU.out])) aO.out
theorem Ot(E:PE)(X:E.Ok)(v:PV)(w:World)(J:PW w E v):
 Calls Tryz.prog 183 #[.pointer (some ⟨E.gp,0,none⟩)] w fun e w'=>e= .returned (.bool (mM E.bs E.l v.st))/\Below w.heap.size w w':=by
 have G:=qb E X v w J;have I:=fun x w' (h:PW w' E v)=>zl E X v x w' h
 obtain⟨k,Q⟩:∃x,bM E.l v.st=x:=⟨_,rfl⟩
 rw[Q]at G;obtain⟨T,F⟩:∃x,bF E.bs E.l v.st [125]=x:=⟨_,rfl⟩
 obtain⟨U,A⟩:∃x,bF E.bs E.l v.st [112,114,111,99]=x:=⟨_,rfl⟩
 obtain⟨z,B⟩:∃x,bF E.bs E.l v.st [114,101,99,111,114,100]=x:=⟨_,rfl⟩
 have C:mM E.bs E.l v.st=(decide (k=5) || T || U || z):=by unfold mM;rw[Q,F,A,B]
 rw[C];have Y:=kH G;have D:=kH I;have L:=kH F;have M:=kH A;have N:=kH B;clear C Q G I F A B;by_cases O:k=5
 ·subst O
  go_in
  go_wp2_with fail
  refine Y.out.mono ?_;rintro e Z ⟨rfl,H⟩;go_wp2_with fail
  go_ret
  exact⟨rfl,H⟩
 ·have u:((k:Int)==5)=false:=by simp;omega
  have S:decide (k=5)=false:=decide_eq_false O;rw[S];clear O S;go_in
  go_wp2_with fail
  refine Y.out.mono ?_;rintro e Z ⟨rfl,H⟩;have V:=J.below H;go_wp2_with fail
  refine(D.out [125] Z V).mono ?_;rintro e t ⟨rfl,A⟩;rw[L.out];have K:=H.trans (A.mono H.size);have W:=V.below A;clear H A;cases T
  ·go_wp2_with fail
   refine(D.out [112,114,111,99] t W).mono ?_;rintro e r ⟨rfl,B⟩;rw[M.out];have R:=K.trans (B.mono K.size);have y:=W.below B;clear K B;cases U
   ·go_wp2_with fail
    refine(D.out [114,101,99,111,114,100] r y).mono ?_;rintro e q ⟨rfl,P⟩;rw[N.out];go_wp2_with fail
    go_ret
    exact⟨bH (by simp),R.trans (P.mono R.size)⟩
   ·go_wp2_with fail
    go_ret
    exact⟨rfl,R⟩
  ·go_wp2_with fail
   go_ret
   exact⟨rfl,K⟩
def NV(w:World)(l:List bB)(e:Ending)(w':World):Prop:=
 ∃A n c,e= .returned (.slice A n c)/\l.length=n/\bU 1 bN w' w'.heap.size A (l.map bf)/\Below w.heap.size w w'
theorem Bn(w:World)(l:List bB):NV w l (.returned (.slice (some ⟨w.heap.size,0,none⟩) l.length l.length)) (w.alloc (.cells (l.map fun b=>Value.string (bf b)).toArray 9)):=
 ⟨_,_,_,rfl,rfl,yC w 9 l,ag _ _⟩
theorem Qd(B:Nat)(w:World)(h:B<=7):Calls Tryz.prog 232 #[.int .i64 (B:Int)] w (NV w (Bw B)):=by
 have A:NV w [] (.returned (.slice none 0 0)) w:=⟨none,0,0,rfl,rfl,fun k c C=>by simp at C,Below.refl _ _⟩
 match B,h with
 | 0,_=>
  go_in
  go_wp2_with fail
  go_ret
  exact A
 | 1,_=>
  go_in
  go_wp2_with fail
  go_ret
  exact Bn w (Bw 1)
 | 2,_=>
  go_in
  go_wp2_with fail
  go_ret
  exact Bn w (Bw 2)
 | 3,_=>
  go_in
  go_wp2_with fail
  go_ret
  exact A
 | 4,_=>
  go_in
  go_wp2_with fail
  go_ret
  exact Bn w (Bw 4)
 | 5,_=>
  go_in
  go_wp2_with fail
  go_ret
  exact Bn w (Bw 5)
 | 6,_=>
  go_in
  go_wp2_with fail
  go_ret
  exact Bn w (Bw 6)
 | 7,_=>
  go_in
  go_wp2_with fail
  go_ret
  exact A
 | n+8,h=>exact absurd h (by omega)
theorem ops_len(A:Nat):(Bw A).length<=6:=by
 unfold Bw;repeat (split;· decide)
 decide
theorem O0(A:List bB)(x:bB):kJ (A.map bf) (bf x)=tL A x:=II A (bf x)
theorem Rp(E:PE)(W:E.Ok)(v:PV)(D:Nat)(w:World)(K:PW w E v)(S:D<=7):
 Calls Tryz.prog 186 #[.pointer (some ⟨E.gp,0,none⟩),.int .i64 (D:Int)] w fun e w'=>e= .returned (.bool (yY E.bs E.l v.st D))/\Below w.heap.size w w':=by
 have H:=qb E W v w K;obtain⟨k,R⟩:∃x,bM E.l v.st=x:=⟨_,rfl⟩
 rw[R]at H;obtain⟨t,F⟩:∃x,tL (Bw D) (bK E.bs E.l v.st.k)=x:=⟨_,rfl⟩
 have C:yY E.bs E.l v.st D=(decide (k≠5)&&t):=by unfold yY;rw[R,F]
 rw[C];have J:=fun w=>Qd D w S
 have N:=kH J;have Z:=kH H;have M:=kH F;clear C R H F J;by_cases P:k=5
 ·subst P
  go_in
  go_wp2_with fail
  refine Z.out.mono ?_;rintro e z ⟨rfl,I⟩;go_wp2_with fail
  go_ret
  exact⟨rfl,I⟩
 ·have m:((k:Int) !=5)=true:=by simp;omega
  have V:decide (k≠5)=true:=decide_eq_true P;rw[V];clear P V;go_in
  go_wp2_with fail
  refine Z.out.mono ?_;rintro e z ⟨rfl,I⟩;have r:=K.below I;go_wp2_with fail
  refine(N.out z).mono ?_;rintro e j ⟨A,n,c,rfl,X,Y,G⟩;have T:=I.trans (G.mono I.size);have q:=r.below G;have U:=kH X;have u:=kH Y;clear I G X Y;go_wp2_with fail
  refine(EE E W v j q).mono ?_;rintro e g ⟨rfl,B⟩;have L:=(u.out.below B (aab _)).mono B.size;have O:=kH L;have y:=T.trans (B.mono T.size);clear T B L;go_wp2_with fail
  refine(ve A n c ((Bw D).map bf) (bf (bK E.bs E.l v.st.k)) g O.out (by rw[List.length_map];exact U.out) (by have:=ops_len D;rw[<- U.out];omega)).mono ?_;rintro e f ⟨rfl,Q⟩;rw[O0,M.out];go_wp2_with fail
  go_ret
  exact⟨bH (by simp),y.trans (Q.mono y.size)⟩
theorem UJ(E:PE)(U:E.Ok)(v:PV)(w:World)(L:PW w E v):
 Calls Tryz.prog 188 #[.pointer (some ⟨E.gp,0,none⟩)] w fun e w'=>e= .returned (.bool (Ba E.bs E.l v.st))/\Below w.heap.size w w':=by
 have F:=qb E U v w L;obtain⟨k,R⟩:∃x,bM E.l v.st=x:=⟨_,rfl⟩
 rw[R]at F;obtain⟨y,D⟩:∃x,tL Eg (bK E.bs E.l v.st.k)=x:=⟨_,rfl⟩
 have C:Ba E.bs E.l v.st=(decide (k=1)&&y):=by unfold Ba;rw[R,D]
 rw[C];have X:=kH F;have O:=kH D;clear C R F D;have I:∀w:World,Below w.heap.size w (w.alloc (.cells (Eg.map fun b=>Value.string (bf b)).toArray 9)):=fun w=>ag _ _
 have G:=kH I;clear I;by_cases H:k=1
 ·subst H
  go_in
  go_wp2_with fail
  refine X.out.mono ?_;rintro e N ⟨rfl,J⟩;have H:=L.below J;have T:=H.below (G.out N);have V:=yC N 9 Eg;have z:=kH V;have Z:=kH T;have K:=J.trans ((G.out N).mono J.size);have S:=kH K;clear V T K;go_wp2_with fail
  refine(EE E U v _ Z.out).mono ?_;rintro e t ⟨rfl,A⟩;have M:=(z.out.below A (aab _)).mono A.size;have P:=kH M;have Y:=S.out.trans (A.mono S.out.size);have W:=kH Y;clear Y M A;go_wp2_with fail
  refine(ve (some ⟨N.heap.size,0,none⟩) 6 6 (Eg.map bf) (bf (bK E.bs E.l v.st.k)) t P.out rfl (by omega)).mono ?_;rintro e r ⟨rfl,Q⟩;rw[O0,O.out];go_wp2_with fail
  go_ret
  exact⟨bH (by simp),W.out.trans (Q.mono W.out.size)⟩
 ·have u:((k:Int)==1)=false:=by simp;omega
  have B:decide (k=1)=false:=decide_eq_false H;rw[B];clear H B;go_in
  go_wp2_with fail
  refine X.out.mono ?_;rintro e N ⟨rfl,J⟩;go_wp2_with fail
  go_ret
  exact⟨rfl,J⟩
theorem Ur(E:PE)(f:E.Ok)(v:PV)(w:World)(L:PW w E v):
 Calls Tryz.prog 136 #[.pointer (some ⟨E.gp,0,none⟩)] w fun e w'=>e= .returned (.bool (EA E.bs E.l v.st))/\Below w.heap.size w w':=by
 have K:=fun w' (h:PW w' E v)=>qb E f v w' h
 have O:=fun x w' (h:PW w' E v)=>zl E f v x w' h
 obtain⟨k,Y⟩:∃x,bM E.l v.st=x:=⟨_,rfl⟩
 rw[Y]at K;obtain⟨z,F⟩:∃x,bF E.bs E.l v.st [116,114,117,101]=x:=⟨_,rfl⟩
 obtain⟨y,G⟩:∃x,bF E.bs E.l v.st [102,97,108,115,101]=x:=⟨_,rfl⟩
 obtain⟨u,H⟩:∃x,bF E.bs E.l v.st [108,101,110]=x:=⟨_,rfl⟩
 obtain⟨t,I⟩:∃x,bF E.bs E.l v.st [40]=x:=⟨_,rfl⟩
 obtain⟨c,J⟩:∃x,bF E.bs E.l v.st [91]=x:=⟨_,rfl⟩
 have C:EA E.bs E.l v.st=(decide (k=0) || decide (k=2) || z || y || u || t || c):=by unfold EA;rw[Y,F,G,H,I,J]
 rw[C];have Z:=kH K;have B:=kH O;have P:=kH F;have Q:=kH G;have R:=kH H;have oN:=kH I;have gG:=kH J;clear C Y K O F G H I J;by_cases X:k=0
 ·subst X
  go_in
  go_wp2_with fail
  refine(Z.out w L).mono ?_;rintro e d ⟨rfl,M⟩;go_wp2_with fail
  go_ret
  exact⟨rfl,M⟩
 have hk0:((k:Int)==0)=false:=by simp;omega
 have N:decide (k=0)=false:=decide_eq_false X;rw[N];clear X N;go_in
 go_wp2_with fail
 refine(Z.out w L).mono ?_;rintro e d ⟨rfl,M⟩;have r:=L.below M;go_wp2_with fail
 refine(Z.out d r).mono ?_;rintro e w2 ⟨rfl,A⟩;have q:=r.below A;have T:=M.trans (A.mono M.size);clear M A;by_cases D:k=2
 ·subst D
  go_wp2_with fail
  go_ret
  exact⟨rfl,T⟩
 have hk2:((k:Int)==2)=false:=by simp;omega
 have S:Hid (decide (k=2)=false):=kH (decide_eq_false D);clear D;go_wp2_with fail
 refine(B.out [116,114,117,101] w2 q).mono ?_;rintro e w3 ⟨rfl,A⟩;rw[P.out];have n:=q.below A;have c3:=T.trans (A.mono T.size);clear A;cases z
 case true=>
  go_wp2_with fail
  go_ret
  exact⟨bH (by simp),c3⟩
 go_wp2_with fail
 refine(B.out [102,97,108,115,101] w3 n).mono ?_;rintro e w4 ⟨rfl,A⟩;rw[Q.out];have m:=n.below A;have U:=c3.trans (A.mono c3.size);clear A;cases y
 case true=>
  go_wp2_with fail
  go_ret
  exact⟨bH (by simp),U⟩
 go_wp2_with fail
 refine(B.out [108,101,110] w4 m).mono ?_;rintro e w5 ⟨rfl,A⟩;rw[R.out];have j:=m.below A;have V:=U.trans (A.mono U.size);clear A;cases u
 case true=>
  go_wp2_with fail
  go_ret
  exact⟨bH (by simp),V⟩
 go_wp2_with fail
 refine(B.out [40] w5 j).mono ?_;rintro e w6 ⟨rfl,A⟩;rw[oN.out];have g:=j.below A;have W:=V.trans (A.mono V.size);clear A;cases t
 case true=>
  go_wp2_with fail
  go_ret
  exact⟨bH (by simp),W⟩
 go_wp2_with fail
 refine(B.out [91] w6 g).mono ?_;rintro e w7 ⟨rfl,A⟩;rw[gG.out];have h7:=g.below A;have b:=W.trans (A.mono W.size);clear A;go_wp2_with fail
 go_ret
 exact⟨bH (by rw[S.out];simp),b⟩
theorem Uo(E:PE)(Q:E.Ok)(v:PV)(w:World)(X:PW w E v)(f:Nat)(r:ae×PS)(hr:sV E.bs E.l f v.st=some r):Calls Tryz.prog 140 #[.pointer (some ⟨E.gp,0,none⟩)] w (bD E w v r):=by
 obtain⟨q,hq,hrq⟩:∃q,sW E.bs E.l v.st.k f (iI E.l v.st 6 [])=some q/\r=(aI E.l q v.st.k 1 [] [],q):=by
  unfold sV at hr;split at hr
  ·cases hr
  ·rename_i q h
   cases hr
   exact⟨q,h,rfl⟩
 have HQ:=kH hq;have j:=kH hrq;clear hr hq hrq;have T:=X.blk.lt;have hk2:w.cell? ⟨E.gp,2,none⟩=some (.int .i64 (v.st.k:Int)):=X.blk.cell 2;obtain⟨first,Sq⟩:∃x,v.st.k=x:=⟨_,rfl⟩
 rw[Sq]at hk2;have HF:=kH Sq;clear Sq;go_in
 go_wp2_with fail
 generalize N:w.alloc (.cells #[.int .i64 0,.string ⟨#[]⟩,.int .i64 0,.int .i64 0,.slice none 0 0] 24)=W1
 have F:Below w.heap.size w W1:=by rw[<- N];exact ag _ _
 have iE:aj W1 w.heap.size 24 #[.int .i64 0,.string ⟨#[]⟩,.int .i64 0,.int .i64 0,.slice none 0 0]:=by rw[<- N];exact aj.new w _ _
 have hs1:W1.heap.size=w.heap.size+1:=by rw[<- N];simp
 have V:=PM.of_below (E:=E) (v:=v) F;have h1:=X.below F;have P1:=V;have pR:=kH hs1;have jK:=kH V;clear N hs1 V F;refine(tu E Q v 6 [] _ h1).mono ?_;rintro e w2 ⟨⟨u2,rfl⟩,v2,hv2,h2,W⟩;have fU:=kH hv2;have hR2:=W.blk h1 iE;have P2:=P1.trans W;clear hv2 W;go_wp2_with fail
 go_loopg [] f (fun gk wr=> ∃B,sW E.bs E.l first gk B.st=some q/\PW wr E B/\PM E w v wr B/\aj wr w.heap.size 24 #[.int .i64 0,.string ⟨#[]⟩,.int .i64 0,.int .i64 0,.slice none 0 0])
 case atStart=>exact⟨v2,by rw[fU.out,<- HF.out];exact HQ.out,h2,P2,hR2⟩
 case round=>
  obtain⟨B,hx,H,hmx,Vr⟩:=hrel
  cases gk with
  | zero=>simp[sW]at hx
  | succ gk=>
   rw[sW]at hx;have Y:=fun w' (h:PW w' E B)=>Ot E Q B w' h
   have G:=fun w' (h:PW w' E B)=>UJ E Q B w' h
   obtain⟨b1,F⟩:∃x,mM E.bs E.l B.st=x:=⟨_,rfl⟩
   obtain⟨b2,R⟩:∃x,Ba E.bs E.l B.st=x:=⟨_,rfl⟩
   rw[F]at Y;rw[R]at G;have HB1:=kH F;rw[F,R]at hx;have P:=kH Y;have HBG:=kH G;have HX:=kH hx;clear hx Y G F R;cases b1
   ·have hk5:bM E.l B.st≠5:=by
     intro h5;have:=HB1.out;unfold mM at this;rw[h5]at this;simp at this
    obtain⟨bg,G⟩:∃x,(decide (B.st.k=first) || !b2)=x:=⟨_,rfl⟩
    have y:=HX.out;rw[G]at y;have J:=H.blk.cell 2;simp at J;obtain⟨u,U⟩:∃x,B.st.k=x:=⟨_,rfl⟩
    rw[U]at G J;have zD:=kH y;have HG:=kH G;have ny:=kH U;have yA:=kH hk5;have hgx:=H.blk.lt;clear y G U HX hk5;have d:=kH H;go_upto_region 3 with fail
    go_cut [25] (fun s25 wx=>s25= .bool bg/\Below wr.heap.size wr wx)
    case first=>
     by_cases t:u=first
     ·have e:bg=true:=by rw[<- HG.out];simp[t]
      subst e;have hki:((u:Int)==(first:Int))=true:=by simp[t]
      have hkn:(u==first)=true:=by simp[t]
      clear t;go_wp2_with fail
      refine(P.out _ H).mono ?_;rintro e n ⟨rfl,C⟩;have hkc4:n.cell? ⟨E.gp,2,none⟩=some (.int .i64 (u:Int)):=(C.cell (p:=⟨E.gp,2,none⟩) hgx).trans J;clear J;go_wp2_with fail
      go_meet
      exact⟨rfl,C⟩
     ·have e:bg= !b2:=by rw[<- HG.out];simp[t]
      subst e;have hki:((u:Int)==(first:Int))=false:=by simp;omega
      have hkn:(u==first)=false:=by simp[t]
      clear t;go_wp2_with fail
      refine(P.out _ H).mono ?_;rintro e n ⟨rfl,C⟩;have hkc4:n.cell? ⟨E.gp,2,none⟩=some (.int .i64 (u:Int)):=(C.cell (p:=⟨E.gp,2,none⟩) hgx).trans J;have L:=d.out.below C;clear J;go_wp2_with fail
      refine(HBG.out _ L).mono ?_;rintro e w5 ⟨rfl,D⟩;go_wp2_with fail
      go_meet
      exact⟨rfl,C.trans (D.mono C.size)⟩
    case rest=>
     obtain⟨rfl,S⟩:=hcut;have L:=d.out.below S;have g:=Vr.below S Vr.lt;have m:=hmx.trans (PM.of_below S);cases bg
     ·have A:B.st=q:=by simpa using zD.out
      obtain⟨I,M⟩:∃I,I=B:=⟨_,rfl⟩
      rw[<- M]at L m A;have jf:=kH A;obtain⟨n,hw4⟩:∃n:World,n=wc:=⟨_,rfl⟩
      rw[HF.out]at j;clear M A;subst hw4;go_wp2_with fail
      refine(iK E Q I _ L first 1 [] (w.heap.size+1)).mono ?_;rintro e w5 ⟨rfl,D,jU⟩;have h5:=L.below D;have b:=g.below D g.lt;obtain⟨⟨r0,r1,r2,r3,r4⟩,g0,g1,g2,g3,g4⟩:=b.five;go_wp2_with fail
      have c:=kH (bJ (v:=v) h5 (m.trans (PM.of_below D)) rfl b T jU);clear jU;refine bodyPost_ret (v:=.agg #[.int .i64 1,.string (bf []),.int .i64 (bP E.l I.st first []),.int .i64 (I.st.last:Int),.slice none 0 0]) (by simp[results,Tryz.results140,go_sem,r0,r1,r2,r3,r4]) rfl ?_;exact Eq.mp (congrArg (fun r=>bD E w v r _ _) (show(aI E.l I.st first 1 [] [],I.st)=_ by rw[jf.out,j.out])) c.out
     ·go_wp2_with fail
      refine(rf E Q B _ L yA.out).mono ?_;rintro e w6 ⟨rfl,h6,gU⟩;have gI:=gU.blk L g;have P6:=m.trans gU;by_cases K:bK E.bs E.l B.st.k=[59]
      ·have A:aB E.l B.st=q:=by
        have:=zD.out;rw[K]at this;simpa using this
       have hws:bf (bK E.bs E.l B.st.k)=⟨#[59]⟩:=by rw[K];rfl
       rw[hws];obtain⟨O,Z⟩:∃O:PV,(⟨aB E.l B.st,B.lv⟩:PV)=O:=⟨_,rfl⟩
       rw[Z]at h6 P6;have lU:Hid (O.st=q):=kH (by rw[<- Z];exact A);rw[HF.out]at j;clear Z A K hws gU;go_wp2_with fail
       refine(iK E Q O _ h6 first 1 [] (w.heap.size+1)).mono ?_;rintro e w7 ⟨rfl,dF,lQ⟩;have h7:=h6.below dF;have fD:=gI.below dF gI.lt;obtain⟨⟨r0,r1,r2,r3,r4⟩,g0,g1,g2,g3,g4⟩:=fD.five;go_wp2_with fail
       have c:=kH (bJ (v:=v) h7 (P6.trans (PM.of_below dF)) rfl fD T lQ);clear lQ;refine bodyPost_ret (v:=.agg #[.int .i64 1,.string (bf []),.int .i64 (bP E.l O.st first []),.int .i64 (O.st.last:Int),.slice none 0 0]) (by simp[results,Tryz.results140,go_sem,r0,r1,r2,r3,r4]) rfl ?_;exact Eq.mp (congrArg (fun r=>bD E w v r _ _) (show(aI E.l O.st first 1 [] [],O.st)=_ by rw[lU.out,j.out])) c.out
      ·have A:sW E.bs E.l first gk (aB E.l B.st)=some q:=by
        have:=zD.out;rw[if_pos (by simp),if_neg K]at this;exact this
       obtain⟨wd,z⟩:∃x,bf (bK E.bs E.l B.st.k)=x:=⟨_,rfl⟩
       have hwf:(wd.data.toList==[59])=false:=by rw[<- z];simpa [bf] using K
       have hwf2:(wd.toList==[59])=false:=by rw[ByteArray.toList_eq];exact hwf
       rw[z];have lI:=kH A;have lW:=kH gU;clear A K z gU;go_wp2_with fail
       go_roundg gk
       case measure=>omega
       case rel=>exact⟨_,lI.out,h6,P6,gI⟩
   ·have A:B.st=q:=by simpa using HX.out
    have Ej:=kH A;clear A;go_wp2_with fail
    refine(P.out _ H).mono ?_;rintro e n ⟨rfl,C⟩;have L:=H.below C;have g:=Vr.below C Vr.lt;have m:=hmx.trans (PM.of_below C);go_wp2_with fail
    obtain⟨I,M⟩:∃I,I=B:=⟨_,rfl⟩
    rw[<- M]at L m Ej;have jf:=Ej;rw[HF.out]at j;clear M;refine(iK E Q I _ L first 1 [] (w.heap.size+1)).mono ?_;rintro e w5 ⟨rfl,D,jU⟩;have h5:=L.below D;have b:=g.below D g.lt;obtain⟨⟨r0,r1,r2,r3,r4⟩,g0,g1,g2,g3,g4⟩:=b.five;go_wp2_with fail
    have c:=kH (bJ (v:=v) h5 (m.trans (PM.of_below D)) rfl b T jU);clear jU;refine bodyPost_ret (v:=.agg #[.int .i64 1,.string (bf []),.int .i64 (bP E.l I.st first []),.int .i64 (I.st.last:Int),.slice none 0 0]) (by simp[results,Tryz.results140,go_sem,r0,r1,r2,r3,r4]) rfl ?_;exact Eq.mp (congrArg (fun r=>bD E w v r _ _) (show(aI E.l I.st first 1 [] [],I.st)=_ by rw[jf.out,j.out])) c.out
end Go.Proofs.YtoepemlnlpamlaaGreat
