/- The law NamesVisibleAt holds where what it reads is of bulk at most 1048576: it returns true, and its arguments read as before. Part 12: Branch StartM Start. -/
import Derived.Test.YtoepemlnlpamlaaGreatVisa04
import Derived.Test.YtoepemlnlpamlaaGreatVisa05
import Derived.Test.YtoepemlnlpamlaaGreatVisa11
set_option maxRecDepth 100000
set_option maxHeartbeats 4000000
namespace Go.Proofs.YtoepemlnlpamlaaGreat
open Go.RowKit
theorem gZ.store{w w':World}{P:Nat->Prop}{g A:Nat}{t:ae}{a b c d e:Value}(h:gZ w P A t a b c d e)(C:bZ (fun x=>x≠g) w w')(E:∀x,P x->x≠g)(B:A≠g):gZ w' P A t a b c d e:=
 ⟨aj.keep h.1 (C A _ B h.1),aC.keeps (fun x D G F=>C x D (E x G) F) _ _ h.2⟩
theorem Yq(E:PE)(hE:E.Ok)(f:Nat)(IH:∀f',f'<=f->yT E f')(v:PV)(w:World)(t:ae)(q:PS)(hpw:PW w E v)(h5:bM E.l v.st≠5)(hr:aP E.bs E.l (f+1) .branch v.st=some ([t],q)):Calls Tryz.prog 135 #[.pointer (some ⟨E.gp,0,none⟩)] w (bD E w v (t,q)):=by
 rw[aP]at hr;obtain⟨u,q3,hx,hr2⟩:=fA hr;obtain⟨n,q5,hy,hr3⟩:=fA hr2;have HX:=kH hx;have HY:=kH hy;have HR:=kH hr3;have HA:=kH (IH f (aab _));have TY:=kH h5;obtain⟨b1,Y⟩:∃x,bF E.bs E.l q5 [101,108,115,101]=x:=⟨_,rfl⟩
 have m:=kH Y;obtain⟨b2,hb2⟩:∃x,bF E.bs E.l (aB E.l q5) [105,102]=x:=⟨_,rfl⟩
 have HB2:=kH hb2;clear hr hx hr2 hy hr3 IH h5 Y hb2;have hgl:=hpw.blk.lt;have hk2:w.cell? ⟨E.gp,2,none⟩=some (.int .i64 (v.st.k:Int)):=hpw.blk.cell 2;go_in
 go_wp2_with fail
 generalize hW1:w.alloc (.cells #[.int .i64 0,.string ⟨#[]⟩,.int .i64 0,.int .i64 0,.slice none 0 0] 24)=W1
 have Y:Below w.heap.size w W1:=by rw[<- hW1];exact ag _ _
 have iE:aj W1 w.heap.size 24 #[.int .i64 0,.string ⟨#[]⟩,.int .i64 0,.int .i64 0,.slice none 0 0]:=by rw[<- hW1];exact aj.new w _ _
 have hs1:W1.heap.size=w.heap.size+1:=by rw[<- hW1];simp
 have hm1:=PM.of_below (E:=E) (v:=v) Y;have h1:=hpw.below Y;have P1:=hm1;have pR:=kH hs1;have jK:=kH hm1;clear hW1 hs1 hm1 Y;clear hk2;have TI:Hid (v.st=v.st):=kH rfl;refine(wP E hE v _ h1 TI.out TY.out).mono ?_;rintro e w2 ⟨rfl,v2,hv2,h2,hm2⟩;have fU:=kH hv2;have hR2:=hm2.blk h1 iE;have P2:=P1.trans hm2;clear hv2 hm2;have I:=HA.out.expr 1 v2 w2 u q3 h2 (by omega) (by omega) (by rw[fU.out];exact HX.out);have HC:=kH I;clear I;go_wp2_with fail
 refine(HC.out).mono ?_;rintro e w3 ⟨k3,t3,a3,z3,A3,n3,c3,rfl,jN,v3,hv3,h3,eB⟩;try dsimp only at hv3 jN
 have fO:=kH hv3;have cZ:=eB.blk h2 hR2;have P3:=P2.trans eB;replace jN:=aC.weak (Q:=fun g=>w.heap.size+1<=g) (fun g _ hg=>aac hR2.lt hg) _ _ jN
 clear hv3 eB;go_wp2_with fail
 generalize kS:w3.alloc (.cells #[.int .i64 k3,.string t3,.int .i64 a3,.int .i64 z3,.slice A3 n3 c3] 24)=w4
 have hb4:Below w3.heap.size w3 w4:=by rw[<- kS];exact ag _ _
 have B:gZ w4 _ w3.heap.size _ (.int .i64 k3) (.string t3) (.int .i64 a3) (.int .i64 z3) (.slice A3 n3 c3):=⟨by rw[<- kS];exact aj.new w3 _ _,aC.keeps (bZ.of_below hb4) _ _ jN⟩
 have hs4:w4.heap.size=w3.heap.size+1:=by rw[<- kS];simp
 have h4:=h3.below hb4;have ek:=cZ.below hb4 cZ.lt;have P4:=P3.trans (PM.of_below hb4);obtain⟨v4,hv4⟩:∃V,V=v3:=⟨_,rfl⟩
 have jf:=fO;rw[<- hv4]at h4 P4 jf;try rw[<- hs4]
 clear hv4 kS jN hs4;have I:=HA.out.block v4 w4 n q5 h4 (by rw[jf.out];exact HY.out);have vS:=kH I;clear I;refine(vS.out).mono ?_;rintro e w5 ⟨k5,t5,a5,z5,A5,n5,c5,rfl,jU,v5,hv5,h5,iC⟩;try dsimp only at hv5 jU
 have HV5:=kH hv5;have eZ:=iC.blk h4 ek;have P5:=P4.trans iC;replace jU:=aC.weak (Q:=fun g=>w.heap.size+1<=g) (fun g _ hg=>aac ek.lt hg) _ _ jU
 replace B:=B.pm iC h4
 clear hv5 iC;have hk2:w5.cell? ⟨E.gp,2,none⟩=some (.int .i64 (v5.st.k:Int)):=h5.blk.cell 2;have hgl5:=h5.blk.lt;go_wp2_with fail
 generalize uJ:w5.alloc (.cells #[.int .i64 k5,.string t5,.int .i64 a5,.int .i64 z5,.slice A5 n5 c5] 24)=w6
 have d:Below w5.heap.size w5 w6:=by rw[<- uJ];exact ag _ _
 have C:gZ w6 _ w5.heap.size _ (.int .i64 k5) (.string t5) (.int .i64 a5) (.int .i64 z5) (.slice A5 n5 c5):=⟨by rw[<- uJ];exact aj.new w5 _ _,aC.keeps (bZ.of_below d) _ _ jU⟩
 have hs6:w6.heap.size=w5.heap.size+1:=by rw[<- uJ];simp
 have h6:=h5.below d;have gI:=eZ.below d eZ.lt;have P6:=P5.trans (PM.of_below d);replace B:=B.below d
 obtain⟨z,hv6⟩:∃V,V=v5:=⟨_,rfl⟩
 have lU:=HV5;rw[<- hv6]at h6 P6 lU;try rw[<- hs6]
 clear hv6 uJ jU hs6;clear hk2;refine(iK E hE z _ h6 v5.st.k 0 [] (w.heap.size+1)).mono ?_;rintro e y ⟨rfl,dF,lQ⟩;have h7:=h6.below dF;have fD:=gI.below dF gI.lt;have P7:=P6.trans (PM.of_below dF);replace B:=(B.below dF).weak (Q:=fun g=>w.heap.size+1<=g/\g≠y.heap.size) (fun g _ O=>⟨O,by omega⟩)
 replace C:=(C.below dF).weak (Q:=fun g=>w.heap.size+1<=g/\g≠y.heap.size) (fun g _ O=>⟨O,by omega⟩)
 have hg3:=B.1.lt;have hg5:=C.1.lt;have hlt7:=fD.lt;clear dF;go_wp2_with fail
 generalize oz:y.alloc (.cells #[.int .i64 0,.string (bf []),.int .i64 (bP E.l z.st v5.st.k []),.int .i64 (z.st.last:Int),.slice none 0 0] 24)=w8
 have dU:Below y.heap.size y w8:=by rw[<- oz];exact ag _ _
 have T:gZ w8 _ y.heap.size (aI E.l z.st v5.st.k 0 [] []) (.int .i64 0) (.string (bf [])) (.int .i64 (bP E.l z.st v5.st.k [])) (.int .i64 (z.st.last:Int)) (.slice none 0 0):=⟨by rw[<- oz];exact aj.new y _ _,aC.keeps (bZ.of_below dU) _ _ lQ⟩
 have j:=h7.below dU;have eF:=fD.below dU fD.lt;have P8:=P7.trans (PM.of_below dU);replace B:=B.below dU
 replace C:=C.below dU
 obtain⟨v8,ed⟩:∃V,V=z:=⟨_,rfl⟩
 have gQ:=lU;rw[<- ed]at j P8 gQ;clear ed oz lQ;cases b1
 case true=>
  refine(pJ E hE v8 _ j gQ.out [101,108,115,101] m.out).mono ?_;rintro e w9 ⟨rfl,v9,gX,h9,X⟩;have kE:=kH gX;have eU:=X.blk j eF;have P9:=P8.trans X;replace B:=B.pm X j
  replace C:=C.pm X j
  replace T:=T.pm X j
  clear gX X;go_wp2_with fail
  refine(Cy E hE v9 _ h9 kE.out [105,102] HB2.out).mono ?_;rintro e aV ⟨rfl,S,gy,D,eT⟩;have jc:=kH gy;have dN:=eT.blk h9 eU;have jV:=P9.trans eT;replace B:=B.pm eT h9
  replace C:=C.pm eT h9
  replace T:=T.pm eT h9
  clear gy eT;cases b2
  case true=>
   obtain⟨P,q31,hz,c⟩:∃x q1,aP E.bs E.l f .branch (aB E.l q5)=some ([x],q1)/\(t,q)=(aI E.l q1 v.st.k 14 [] [u,n,x],q1):=by
    have:=HR.out;rw[m.out,if_pos rfl,HB2.out,if_pos rfl]at this;obtain⟨x,p,h1,h2⟩:=fA this;simp at h2;exact⟨x,p,h1,by rw[<- h2.1,<- h2.2]⟩
   have HZ:=kH hz;have aN:=kH c;clear hz c HR;have HC3:=kH (HA.out.branch S aV P q31 D (by rw[jc.out];exact IA HB2.out) (by rw[jc.out];exact HZ.out));have hg10:=T.1.lt;go_wp2_with fail
   refine(HC3.out).mono ?_;rintro e DD ⟨sI,L,G,N,sO,K,H,rfl,b,v31,J,h31,Z⟩;try dsimp only at J b
   have Ff:=kH J;have xV:=Z.blk D dN;have Nh:=jV.trans Z;replace b:=aC.weak (Q:=fun g=>w.heap.size+1<=g/\g≠y.heap.size) (fun g _ hg=>⟨aac dN.lt hg,by omega⟩) _ _ b
   have pG:=Z.blk D T.1;replace B:=B.pm Z D
   replace C:=C.pm Z D
   obtain⟨⟨q0,q1',q2',q3,q4⟩,Ja,I9,I8,I7,I6⟩:=pG.five;have EN:=pG.lt;clear J Z T;obtain⟨⟨Ri,Rh,Rf,Re,Rc⟩,Rb,Ra,Q9,Q8,Q6⟩:=B.1.five;have Q5:=B.1.lt;obtain⟨⟨Kn,Kl,Kj,Kh,Ke⟩,Kb,J9,J7,J5,J3⟩:=C.1.five;have JZ:=C.1.lt;go_wp2_with fail
   clear Ri Rh Rf Re Rc Rb Ra Q9 Q8 Q6 Q5;clear Kn Kl Kj Kh Ke Kb J9 J7 J5 J3 JZ;obtain⟨U,Af,xW,qd⟩:=wO h31 Nh pG (by omega) (.int .i64 sI) (.string L) (.int .i64 G) (.int .i64 N) (.slice sO K H);have wH:=xV.keep (qd w.heap.size _ (by omega) xV);have o9:gZ _ _ _ _ (.int .i64 sI) (.string L) (.int .i64 G) (.int .i64 N) (.slice sO K H):=⟨xW,aC.keeps (w':=fw DD y.heap.size (.int .i64 sI) (.string L) (.int .i64 G) (.int .i64 N) (.slice sO K H)) (fun g cs hP hc=>qd g cs hP.2 hc) _ _ b⟩
   replace B:=(B.store qd (fun x hx=>hx.2) (by omega)).weak (Q:=fun g=>w.heap.size+1<=g) (fun g _ O=>O.1)
   replace C:=(C.store qd (fun x hx=>hx.2) (by omega)).weak (Q:=fun g=>w.heap.size+1<=g) (fun g _ O=>O.1)
   replace o9:=o9.weak (Q:=fun g=>w.heap.size+1<=g) (fun g _ O=>O.1)
   obtain⟨F,A⟩:∃W,fw DD y.heap.size (.int .i64 sI) (.string L) (.int .i64 G) (.int .i64 N) (.slice sO K H)=W:=⟨_,rfl⟩
   have RU:F.heap.size=DD.heap.size:=by rw[<- A];simp[fw]
   rw[A]at U Af wH o9 B C;unfold fw at A;rw[A,<- RU];obtain⟨v32,R⟩:∃V,V=v31:=⟨_,rfl⟩
   have yj:=Ff;rw[<- R]at U Af yj;clear R xW qd b pG q0 q1' q2' q3 q4 Ja I9 I8 I7 I6 EN A RU;have TT:=kH (zi B.2 C.2 o9.2 (by have:=wH.lt;omega));generalize SG:F.alloc (.cells #[.int .i64 k3,.string t3,.int .i64 a3,.int .i64 z3,.slice A3 n3 c3,.int .i64 k5,.string t5,.int .i64 a5,.int .i64 z5,.slice A5 n5 c5,.int .i64 sI,.string L,.int .i64 G,.int .i64 N,.slice sO K H] 24)=vK at TT⊢
   have KO:Below F.heap.size F vK:=by rw[<- SG];exact ag _ _
   have Eb:=U.below KO;have uL:=wH.below KO wH.lt;have Hq:=Af.trans (PM.of_below KO);obtain⟨M,xH⟩:∃V,V=v32:=⟨_,rfl⟩
   have BZ:=yj;rw[<- xH]at Eb Hq BZ;clear xH SG;refine(dV E hE M _ Eb v.st.k 14 [] (w.heap.size+1) (some ⟨F.heap.size,0,none⟩) 3 3 [u,n,P] TT.out).mono ?_;rintro e Qv ⟨rfl,oU,SV⟩;have BM:=Eb.below oU;have xU:=uL.below oU uL.lt;obtain⟨⟨r0,r1,r2,r3,r4⟩,g0,g1,g2,g3,g4⟩:=xU.five;go_wp2_with fail
   have aO:=kH (bJ (v:=v) BM (Hq.trans (PM.of_below oU)) rfl xU hgl SV);clear SV;refine bodyPost_ret (v:=.agg #[.int .i64 14,.string (bf []),.int .i64 (bP E.l M.st v.st.k [u,n,P]),.int .i64 (M.st.last:Int),.slice (some ⟨F.heap.size,0,none⟩) 3 3]) (by simp[results,Tryz.results135,go_sem,r0,r1,r2,r3,r4]) rfl ?_;exact Eq.mp (congrArg (fun r=>bD E w v r _ _) (show(aI E.l M.st v.st.k 14 [] [u,n,P],M.st)=_ by rw[aN.out,BZ.out])) aO.out
  case false=>
   obtain⟨P,q31,hz,c⟩:∃x q1,aP E.bs E.l f .block (aB E.l q5)=some ([x],q1)/\(t,q)=(aI E.l q1 v.st.k 14 [] [u,n,x],q1):=by
    have:=HR.out;rw[m.out,if_pos rfl,HB2.out,if_neg (by simp)]at this;obtain⟨x,p,h1,h2⟩:=fA this;simp at h2;exact⟨x,p,h1,by rw[<- h2.1,<- h2.2]⟩
   have HZ:=kH hz;have aN:=kH c;clear hz c HR;have HC3:=kH (HA.out.block S aV P q31 D (by rw[jc.out];exact HZ.out));have hg10:=T.1.lt;go_wp2_with fail
   refine(HC3.out).mono ?_;rintro e DD ⟨sI,L,G,N,sO,K,H,rfl,b,v31,J,h31,Z⟩;try dsimp only at J b
   have Ff:=kH J;have xV:=Z.blk D dN;have Nh:=jV.trans Z;replace b:=aC.weak (Q:=fun g=>w.heap.size+1<=g/\g≠y.heap.size) (fun g _ hg=>⟨aac dN.lt hg,by omega⟩) _ _ b
   have pG:=Z.blk D T.1;replace B:=B.pm Z D
   replace C:=C.pm Z D
   obtain⟨⟨q0,q1',q2',q3,q4⟩,Ja,I9,I8,I7,I6⟩:=pG.five;have EN:=pG.lt;clear J Z T;obtain⟨⟨Ri,Rh,Rf,Re,Rc⟩,Rb,Ra,Q9,Q8,Q6⟩:=B.1.five;have Q5:=B.1.lt;obtain⟨⟨Kn,Kl,Kj,Kh,Ke⟩,Kb,J9,J7,J5,J3⟩:=C.1.five;have JZ:=C.1.lt;go_wp2_with fail
   clear Ri Rh Rf Re Rc Rb Ra Q9 Q8 Q6 Q5;clear Kn Kl Kj Kh Ke Kb J9 J7 J5 J3 JZ;obtain⟨U,Af,xW,qd⟩:=wO h31 Nh pG (by omega) (.int .i64 sI) (.string L) (.int .i64 G) (.int .i64 N) (.slice sO K H);have wH:=xV.keep (qd w.heap.size _ (by omega) xV);have o9:gZ _ _ _ _ (.int .i64 sI) (.string L) (.int .i64 G) (.int .i64 N) (.slice sO K H):=⟨xW,aC.keeps (w':=fw DD y.heap.size (.int .i64 sI) (.string L) (.int .i64 G) (.int .i64 N) (.slice sO K H)) (fun g cs hP hc=>qd g cs hP.2 hc) _ _ b⟩
   replace B:=(B.store qd (fun x hx=>hx.2) (by omega)).weak (Q:=fun g=>w.heap.size+1<=g) (fun g _ O=>O.1)
   replace C:=(C.store qd (fun x hx=>hx.2) (by omega)).weak (Q:=fun g=>w.heap.size+1<=g) (fun g _ O=>O.1)
   replace o9:=o9.weak (Q:=fun g=>w.heap.size+1<=g) (fun g _ O=>O.1)
   obtain⟨F,A⟩:∃W,fw DD y.heap.size (.int .i64 sI) (.string L) (.int .i64 G) (.int .i64 N) (.slice sO K H)=W:=⟨_,rfl⟩
   have RU:F.heap.size=DD.heap.size:=by rw[<- A];simp[fw]
   rw[A]at U Af wH o9 B C;unfold fw at A;rw[A,<- RU];obtain⟨v32,R⟩:∃V,V=v31:=⟨_,rfl⟩
   have yj:=Ff;rw[<- R]at U Af yj;clear R xW qd b pG q0 q1' q2' q3 q4 Ja I9 I8 I7 I6 EN A RU;have TT:=kH (zi B.2 C.2 o9.2 (by have:=wH.lt;omega));generalize SG:F.alloc (.cells #[.int .i64 k3,.string t3,.int .i64 a3,.int .i64 z3,.slice A3 n3 c3,.int .i64 k5,.string t5,.int .i64 a5,.int .i64 z5,.slice A5 n5 c5,.int .i64 sI,.string L,.int .i64 G,.int .i64 N,.slice sO K H] 24)=vK at TT⊢
   have KO:Below F.heap.size F vK:=by rw[<- SG];exact ag _ _
   have Eb:=U.below KO;have uL:=wH.below KO wH.lt;have Hq:=Af.trans (PM.of_below KO);obtain⟨M,xH⟩:∃V,V=v32:=⟨_,rfl⟩
   have BZ:=yj;rw[<- xH]at Eb Hq BZ;clear xH SG;refine(dV E hE M _ Eb v.st.k 14 [] (w.heap.size+1) (some ⟨F.heap.size,0,none⟩) 3 3 [u,n,P] TT.out).mono ?_;rintro e Qv ⟨rfl,oU,SV⟩;have BM:=Eb.below oU;have xU:=uL.below oU uL.lt;obtain⟨⟨r0,r1,r2,r3,r4⟩,g0,g1,g2,g3,g4⟩:=xU.five;go_wp2_with fail
   have aO:=kH (bJ (v:=v) BM (Hq.trans (PM.of_below oU)) rfl xU hgl SV);clear SV;refine bodyPost_ret (v:=.agg #[.int .i64 14,.string (bf []),.int .i64 (bP E.l M.st v.st.k [u,n,P]),.int .i64 (M.st.last:Int),.slice (some ⟨F.heap.size,0,none⟩) 3 3]) (by simp[results,Tryz.results135,go_sem,r0,r1,r2,r3,r4]) rfl ?_;exact Eq.mp (congrArg (fun r=>bD E w v r _ _) (show(aI E.l M.st v.st.k 14 [] [u,n,P],M.st)=_ by rw[aN.out,BZ.out])) aO.out
 have aN:Hid ((t,q)=(aI E.l q5 v.st.k 14 [] [u,n,aI E.l z.st v5.st.k 0 [] []],q5)):=kH (by
  have:=HR.out;rw[m.out,if_neg (by simp)]at this;simp at this
  rw[lU.out,HV5.out,<- this.1,<- this.2])
 clear HR;refine(qV E hE v8 _ j gQ.out [101,108,115,101] m.out).mono ?_;rintro e w9 ⟨rfl,v9,gX,h9,X⟩;have kE:=kH gX;have eU:=X.blk j eF;have P9:=P8.trans X;replace B:=B.pm X j
 replace C:=C.pm X j
 replace T:=T.pm X j
 clear gX X;obtain⟨⟨Ri,Rh,Rf,Re,Rc⟩,Rb,Ra,Q9,Q8,Q6⟩:=B.1.five;have Q5:=B.1.lt;obtain⟨⟨Kn,Kl,Kj,Kh,Ke⟩,Kb,J9,J7,J5,J3⟩:=C.1.five;have JZ:=C.1.lt;obtain⟨⟨Km,Kk,Ki,Kg,Kc⟩,Ka,J8,J6,J4,J2⟩:=T.1.five;have JY:=T.1.lt;go_wp2_with fail
 clear Ri Rh Rf Re Rc Rb Ra Q9 Q8 Q6 Q5;clear Kn Kl Kj Kh Ke Kb J9 J7 J5 J3 JZ;clear Km Kk Ki Kg Kc Ka J8 J6 J4 J2 JY;have sj:=kH (zi (aC.weak (Q:=fun g=>w.heap.size+1<=g) (fun g _ O=>O.1) _ _ B.2) (aC.weak (Q:=fun g=>w.heap.size+1<=g) (fun g _ O=>O.1) _ _ C.2) T.2 (by have:=eU.lt;omega));generalize GQ:w9.alloc (.cells #[.int .i64 k3,.string t3,.int .i64 a3,.int .i64 z3,.slice A3 n3 c3,.int .i64 k5,.string t5,.int .i64 a5,.int .i64 z5,.slice A5 n5 c5,.int .i64 0,.string (bf []),.int .i64 (bP E.l z.st v5.st.k []),.int .i64 (z.st.last:Int),.slice none 0 0] 24)=aV at sj⊢
 have jg:Below w9.heap.size w9 aV:=by rw[<- GQ];exact ag _ _
 have D:=h9.below jg;have dN:=eU.below jg eU.lt;have jV:=P9.trans (PM.of_below jg);obtain⟨S,gy⟩:∃V,V=v9:=⟨_,rfl⟩
 have jc:=kE;rw[<- gy]at D jV jc;clear gy GQ;refine(dV E hE S _ D v.st.k 14 [] (w.heap.size+1) (some ⟨w9.heap.size,0,none⟩) 3 3 [u,n,aI E.l z.st v5.st.k 0 [] []] sj.out).mono ?_;rintro e jB ⟨rfl,il,oC⟩;have h11:=D.below il;have jh:=dN.below il dN.lt;obtain⟨⟨r0,r1,r2,r3,r4⟩,g0,g1,g2,g3,g4⟩:=jh.five;go_wp2_with fail
 have aO:=kH (bJ (v:=v) h11 (jV.trans (PM.of_below il)) rfl jh hgl oC);clear oC;refine bodyPost_ret (v:=.agg #[.int .i64 14,.string (bf []),.int .i64 (bP E.l S.st v.st.k [u,n,aI E.l z.st v5.st.k 0 [] []]),.int .i64 (S.st.last:Int),.slice (some ⟨w9.heap.size,0,none⟩) 3 3]) (by simp[results,Tryz.results135,go_sem,r0,r1,r2,r3,r4]) rfl ?_;exact Eq.mp (congrArg (fun r=>bD E w v r _ _) (show(aI E.l S.st v.st.k 14 [] [u,n,aI E.l z.st v5.st.k 0 [] []],S.st)=_ by rw[aN.out,jc.out])) aO.out
theorem answ_all(E:PE)(C:E.Ok):∀(f:Nat),∀D,D<=f->yT E D:=by
 have K:yT E 0:=by
  constructor<;> · intros;rename_i h;simp[aP]at h
 intro f
 induction f with
 | zero=>
  intro D O;have:D=0:=by omega
  subst this;exact K
 | succ f ih=>
  intro D O;by_cases N:D<=f
  ·exact ih D N
  ·have:D=f+1:=by omega
   subst this
   exact {
    expr:=fun H v w t q A L M B=>by
     by_cases J:H=3
     ·subst J
      exact expr3_any E C f ih v w t q A B
     ·by_cases I:H=7
      ·subst I
       exact expr7_any E C f ih v w t q A B
      ·exact exprs_any E C f ih H J I L M v w t q A B
    operand:=fun v w t q A B=>Uu E C f ih v w t q A B
    args:=fun v w F q A G B=>Qc E C f ih v w F q A G B
    place:=fun v w t q A B=>Zg E C f ih v w t q A B
    stmt:=fun v w t q A B=>stmt_any E C f ih v w t q A B
    block:=fun v w t q A B=>block_any E C f ih v w t q A B
    branch:=fun v w t q A G B=>Yq E C f ih v w t q A G B }
theorem answ(E:PE)(A:E.Ok)(f:Nat):yT E f:=answ_all E A f f (aab _)
end Go.Proofs.YtoepemlnlpamlaaGreat
namespace Go.Proofs.YtoepemlnlpamlaaGreat
def sw(n:Nat):Nat->List kD->Prop
 | _,[]=>False
 | lo,t::ts=>lo<=t.at_/\t.from_<=t.at_/\t.at_<=t.end_/\t.end_<=n/\((ts=[]/\t.kind=5/\t.at_=t.end_)\/(t.kind<=4/\sw n t.end_ ts))
theorem sw.mono{n:Nat}{lo lo':Nat}(h:lo'<=lo):∀{l:List kD},sw n lo l->sw n lo' l
 | [],hc=>hc
 | _::_,hc=>⟨aac h hc.1,hc.2⟩
theorem LW{s:bB}:∀(f a:Nat),a<=s.length->s.length<f+a->sw s.length a (uR s f a):=by
 intro f
 induction f with
 | zero=>intro a F G;omega
 | succ f ih=>
  intro a F G;obtain⟨E,C⟩:∃x,kG s (s.length+1) a=x:=⟨_,rfl⟩
  have A:=Ex (s:=s) (s.length+1) a F (by omega);rw[C]at A;rw[uR];simp only[C];split
  ·rename_i h
   have:E=s.length:=by omega
   exact⟨A.1,A.1,aab _,by simp only;omega,.inl ⟨rfl,rfl,rfl⟩⟩
  ·rename_i h
   have B:E<s.length:=by omega
   have D:=CY B (A.2.2 B).1 (A.2.2 B).2;have H:=A.1;have I:=D.1;exact⟨A.1,A.1,Nat.le_of_lt D.1,D.2.1,.inr ⟨D.2.2,ih _ D.2.1 (by show s.length<f+(gM s E).2;omega)⟩⟩
theorem G8{n:Nat}:∀{l:List kD}{lo:Nat},sw n lo l->sw n lo (l.filter fun t=>decide (t.kind≠4))
 | [],_,h=>h
 | t::ts,lo,h=>by
  obtain⟨C,D,E,F,I⟩:=h;rcases I with⟨rfl,A,B⟩| ⟨A,B⟩
  ·have:(List.filter (fun t:kD=>decide (t.kind≠4)) [t])=[t]:=by simp[A]
   rw[this];exact⟨C,D,E,F,.inl ⟨rfl,A,B⟩⟩
  ·have H:=G8 B
   by_cases G:t.kind=4
   ·rw[List.filter_cons_of_neg (by simp[G])]
    exact H.mono (by omega)
   ·rw[List.filter_cons_of_pos (by simp[G])]
    exact⟨C,D,E,F,.inr ⟨A,H⟩⟩
theorem Un(s:bB):sw s.length 0 (pY s):=G8 (LW _ _ (Nat.zero_le _) (by omega))
theorem Bj(t:kD)(ts:List kD)(k:Nat):iA (t::ts) (k+1)=iA ts k:=by simp[iA]
theorem Ew(t:kD)(ts:List kD):iA (t::ts) 0=t:=by simp[iA]
theorem M8{n:Nat}:∀{l:List kD}{lo:Nat},sw n lo l->oF l
 | [],_,h=>h.elim
 | t::ts,lo,h=>by
  intro k D A;obtain⟨_,_,_,_,C⟩:=h
  cases k with
  | zero=>
   rw[Ew]at A;rcases C with⟨_,E,_⟩| ⟨_,B⟩
   ·exact absurd E A
   ·cases ts with
    | nil=>exact B.elim
    | cons _ _=>simp
  | succ k=>
   rw[Bj]at A;rcases C with⟨rfl,_,_⟩| ⟨_,B⟩
   ·simp at D
   ·have:=M8 B k (by simpa using D) A
    simp only[aao];omega
theorem M7{n:Nat}:∀{l:List kD}{lo:Nat},sw n lo l->∀k,(iA l k).kind=5->(iA l k).at_=(iA l k).end_
 | [],_,h,_,_=>h.elim
 | t::ts,lo,h,k,hk=>by
  obtain⟨_,_,_,_,B⟩:=h
  cases k with
  | zero=>
   rw[Ew]at hk⊢;rcases B with⟨_,_,A⟩| ⟨C,_⟩
   ·exact A
   ·omega
  | succ k=>
   rw[Bj]at hk⊢;rcases B with⟨rfl,_,_⟩| ⟨_,A⟩
   ·simp[iA,tokD]
   ·exact M7 A k hk
theorem UI{n:Nat}{l:List kD}{lo:Nat}(s:bB)(h:sw n lo l):qY s l:=by
 intro k A;have:=M7 h k A;unfold bK Cq uD;rw[this];simp
theorem M6{n:Nat}:∀{l:List kD}{lo:Nat},sw n lo l->∀k,k+1<l.length->(iA l k).at_<=(iA l (k+1)).at_
 | [],_,h,_,_=>h.elim
 | t::ts,lo,h,k,hk=>by
  obtain⟨_,_,C,_,B⟩:=h;rcases B with⟨rfl,_,_⟩| ⟨_,A⟩
  ·simp at hk
  ·cases k with
   | zero=>
    cases ts with
    | nil=>exact A.elim
    | cons u us=>
     rw[Ew,Bj,Ew];have:=A.1;omega
   | succ k=>
    rw[Bj,Bj];exact M6 A k (by simpa using hk)
theorem Hf{n:Nat}:∀{l:List kD}{lo:Nat},sw n lo l->∀t∈l,t.from_<=t.at_/\t.at_<=t.end_/\t.end_<=n/\t.kind<=5
 | [],_,h,_,_=>h.elim
 | t::ts,lo,h,u,A=>by
  obtain⟨_,C,D,E,B⟩:=h;rcases List.mem_cons.1 A with rfl|A
  ·refine⟨C,D,E,?_⟩
   rcases B with⟨_,F,_⟩| ⟨F,_⟩ <;>omega
  ·rcases B with⟨rfl,_,_⟩| ⟨_,G⟩
   ·cases A
   ·exact Hf G u A
open Go.RowKit
theorem scan_len{s:bB}:∀(f a:Nat),a<=s.length->(uR s f a).length<=s.length - a+1:=by
 intro f
 induction f with
 | zero=>intro a D;simp[uR]
 | succ f ih=>
  intro a D;obtain⟨F,B⟩:∃x,kG s (s.length+1) a=x:=⟨_,rfl⟩
  have C:=Ex (s:=s) (s.length+1) a D (by omega);rw[B]at C;rw[uR];simp only[B];split
  ·simp
  ·rename_i h
   have A:F<s.length:=by omega
   have E:=CY A (C.2.2 A).1 (C.2.2 A).2;have G:=C.1;have H:=E.1;have:=ih _ E.2.1;simp only[aao];omega
theorem C9(s:bB):(rH s).length<=s.length+1:=by
 have:=scan_len (s:=s) (s.length+1) 0 (Nat.zero_le _);unfold rH;omega
theorem Ou(s:ByteArray)(w:World)(hs:s.size<=4096):Calls Tryz.prog 64 #[.string s] w fun e w'=> ∃E v,e= .returned (.pointer (some ⟨E.gp,0,none⟩))/\E.Ok/\E.bs=s.data.toList/\E.l=pY s.data.toList/\E.lo=w.heap.size/\v.st=⟨0,0,[]⟩/\PW w' E v/\Below w.heap.size w w':=by
 obtain⟨i0,hi0,hz0,hz1,hz2⟩:=info_parts QA;go_in
 go_wp2_with fail
 generalize K:w.alloc (.cells #[.string s,.slice none 0 0,.int .i64 0,.int .i64 0,.slice none 0 0] 130)=W1
 have O:Below w.heap.size w W1:=by rw[<- K];exact ag _ _
 have iE:aj W1 w.heap.size 130 #[.string s,.slice none 0 0,.int .i64 0,.int .i64 0,.slice none 0 0]:=by rw[<- K];exact aj.new w _ _
 have y:W1.heap.size=w.heap.size+1:=by rw[<- K];simp
 refine(Tz s W1 hs).mono ?_;rintro e w2 ⟨vl,rfl,J,P⟩;have N:=iE.below P iE.lt;have lY:=O.trans (P.mono O.size);obtain⟨l,hl⟩:∃l,rH s.data.toList=l:=⟨_,rfl⟩
 rw[hl]at J;obtain⟨Al,cl,rfl,-,-⟩:=J.shape;have r9:=kH J;have U:=kH N;have L:=kH lY;have HL:=kH hl
 have hll:l.length<=4097:=by
  have:=C9 s.data.toList;rw[HL.out,bQ]at this;omega
 have hlt2:=N.lt;clear K O iE y P J N lY hl;go_wp2_with fail
 go_loopg [6] l.length (fun gk s5 wr=> ∃(k:Nat) (A:Option Addr) (n c:Nat),k+gk=l.length/\s5= .int .i64 (k:Int)/\n=((l.take k).filter fun t=>decide (t.kind≠4)).length/\aj wr w.heap.size 130 #[.string s,.slice A n c,.int .i64 0,.int .i64 0,.slice none 0 0]/\aK wr w2.heap.size 186 4 (.slice A n c) n (((l.take k).filter fun t=>decide (t.kind≠4)).flatMap jY)/\aF (fun g=>g=w.heap.size) w2 wr)
 case atStart=>exact⟨0,none,0,0,by omega,rfl,rfl,U.out,aK.nil _ _ _ _,aF.refl _ _⟩
 case round=>
  obtain⟨k,A,n,c,hk,rfl,hn,V,hO,hS⟩:=hrel;have d:=kH hn;have u:=kH V;have S:=kH hO;have r:=kH hS;have hgr:=V.lt;have hc1:wr.cell? ⟨w.heap.size,1,none⟩=some (.slice A n c):=V.cell 1;have hfz:=V.frozen 1;have Z5:=r9.out.since hS (fun g m F=>r9.out.cB U.out (by decide) (by rw[m,F]));have Pz:=kH Z5;have hnk:n<=k:=by rw[hn];exact aac (List.length_filter_le _ _) (by simp;omega)
  clear hn V hO hS Z5;by_cases hkl:k<l.length
  ·obtain⟨D,Q⟩:∃x,l[k]? =some x:=⟨_,aaf hkl⟩
   obtain⟨b,C,hA,hb,I⟩:=Pz.out.rowAt (cells:=jY) (l:=l) rfl rfl (by intro c _;rfl) rfl k D Q;subst hA;have t0:wr.cell? ⟨b,C+k*4,none⟩=some (.int .i64 (D.kind:Int)):=I 0 _ rfl;have t1:wr.cell? ⟨b,C+k*4+1,none⟩=some (.int .i64 (D.from_:Int)):=I 1 _ rfl;have t2:wr.cell? ⟨b,C+k*4+2,none⟩=some (.int .i64 (D.at_:Int)):=I 2 _ rfl;have t3:wr.cell? ⟨b,C+k*4+3,none⟩=some (.int .i64 (D.end_:Int)):=I 3 _ rfl;have zG:=kH Q;have hwr:IntKind.i64.wrap ((k:Int)+1)=(k:Int)+1:=IntWalk.i64_in _ (by omega);clear I Q;by_cases q:D.kind=4
   ·have hki:((D.kind:Int) !=4)=false:=by simp;omega
    have f:=kH q;clear q;go_wp2_with fail
    have F:(l.take (k+1)).filter (fun t=>decide (t.kind≠4))=(l.take k).filter fun t=>decide (t.kind≠4):=by
     rw[List.take_add_one,zG.out,List.filter_append];simp[f.out]
    go_roundg (gk - 1)
    case measure=>omega
    case rel=>exact⟨k+1,A,n,c,by omega,by simp,by rw[F];exact d.out,u.out,by rw[F];exact S.out,r.out⟩
   ·have hki:((D.kind:Int) !=4)=true:=by simp;omega
    have f:=kH q;have Z:(Value.slice A n c).ownBlock≠some w.heap.size:=S.out.cB u.out (by decide)
    have Y:(Value.slice A n c).ownBlock≠some b:=fun F=>by
     have h1:=(S.out.lt _ F).1;have h2:=(r9.out.lt b rfl).2;omega
    have fH:=kH Z;have j:=kH Y;have OP:=r.out.size;clear q Z Y;go_wp2_with fail
    refine eQ (fun w'=>w'.cell? ⟨w.heap.size,1,none⟩=some (.slice A n c)/\w'.cell? ⟨b,C+k*4,none⟩=some (.int .i64 (D.kind:Int))/\w'.cell? ⟨b,C+k*4+1,none⟩=some (.int .i64 (D.from_:Int))/\w'.cell? ⟨b,C+k*4+2,none⟩=some (.int .i64 (D.at_:Int))/\w'.cell? ⟨b,C+k*4+3,none⟩=some (.int .i64 (D.end_:Int))) [9] [true,true,true,true,true,true,false,false,false,false] (by kernel_rfl) (by kernel_rfl) rfl (by kernel_rfl) ?_;have hS0:wr.drew.cell? ⟨w.heap.size,1,none⟩=some (.slice A n c)/\wr.drew.cell? ⟨b,C+k*4,none⟩=some (.int .i64 (D.kind:Int))/\wr.drew.cell? ⟨b,C+k*4+1,none⟩=some (.int .i64 (D.from_:Int))/\wr.drew.cell? ⟨b,C+k*4+2,none⟩=some (.int .i64 (D.at_:Int))/\wr.drew.cell? ⟨b,C+k*4+3,none⟩=some (.int .i64 (D.end_:Int)):=⟨hc1,t0,t1,t2,t3⟩
    iterate 6(refine ic rfl hS0 (by intro w' hSw;obtain⟨y,hs2,hs3,hs4,hs5⟩:=hSw;go_simp;rfl) ?_;simp only[Act.put,sA,sZ,sC])
    refine ib (w':=wr.drew.alloc (.cells #[.int .i64 (D.kind:Int),.int .i64 (D.from_:Int),.int .i64 (D.at_:Int),.int .i64 (D.end_:Int)] 186)) rfl (by go_simp;rfl) ?_ ?_
    ·exact fun _=>⟨by go_simp,by go_simp,by go_simp,by go_simp,by go_simp⟩
    simp only[Act.put,sA,sZ,sC];refine sP rfl (iG _ (.tmp 27) (.tmp 32) _ rfl w2.heap.size 186 i0 _ 4 32 Tryz.underlying128 hi0 hz0 hz1 hz2 rfl (.slice A n c) n (((l.take k).filter fun t=>decide (t.kind≠4)).flatMap jY) rfl (S.out.drew.alloc _) ⟨wr.heap.size,0,none⟩ 1 1 (jY D) rfl rfl (sG _ _ _ _ _ _ (by go_simp) (by go_simp) (by go_simp) (by go_simp)) (by simp[jY,Value.oneCell']) (by simp only[maxLen];omega) (by omega) (by simp;omega) ?_);intro v3 R G B vG;obtain⟨A3,c3,hv3,-,-⟩:=G.shape;subst hv3;have hz3:=B.size;simp at hz3
    have q0:R.cell? ⟨w.heap.size,1,none⟩=some (.slice A n c):=by
     rw[B.cell_far _ (by simp;omega) (fun F=>fH.out F.symm)];go_simp
    have q1:R.cell? ⟨b,C+k*4,none⟩=some (.int .i64 (D.kind:Int)):=by
     rw[B.cell_far _ (by simp;omega) (fun F=>j.out F.symm)];go_simp
    have q2:R.cell? ⟨b,C+k*4+1,none⟩=some (.int .i64 (D.from_:Int)):=by
     rw[B.cell_far _ (by simp;omega) (fun F=>j.out F.symm)];go_simp
    have q3:R.cell? ⟨b,C+k*4+2,none⟩=some (.int .i64 (D.at_:Int)):=by
     rw[B.cell_far _ (by simp;omega) (fun F=>j.out F.symm)];go_simp
    have q4:R.cell? ⟨b,C+k*4+3,none⟩=some (.int .i64 (D.end_:Int)):=by
     rw[B.cell_far _ (by simp;omega) (fun F=>j.out F.symm)];go_simp
    have M:=aj.grown (aj.alloc (aj.drew u.out) (.cells #[.int .i64 (D.kind:Int),.int .i64 (D.from_:Int),.int .i64 (D.at_:Int),.int .i64 (D.end_:Int)] 186)) B (fun F=>fH.out F.symm);have q5:=M.frozen 1;have T:=kH M;clear M;refine⟨fun _=>⟨q0,q1,q2,q3,q4⟩,?_⟩;simp only[Act.put,sA,sZ,sC];refine ib (w':=R) rfl (by go_simp;rfl) (fun _=>⟨q0,q1,q2,q3,q4⟩) ?_;simp only[Act.put,sA,sZ,sC];refine iU (w':=R.setCell ⟨w.heap.size,1,none⟩ (.slice A3 (n+1) c3)) rfl (by go_simp) (by simp) ?_;refine jm ?_;simp only[Act.put];have Nq:=kH G;have Nu:=kH B;clear G B vG;go_wp2_with fail
    have F:(l.take (k+1)).filter (fun t=>decide (t.kind≠4))=((l.take k).filter fun t=>decide (t.kind≠4))++[D]:=by
     rw[List.take_add_one,zG.out,List.filter_append];simp[f.out]
    have hB4:=T.out.gu 1 (.slice A3 (n+1) c3);go_roundg (gk - 1)
    case measure=>omega
    case rel=>
     refine⟨k+1,A3,n+1,c3,by omega,by simp,by rw[F,aam,<- d.out];rfl,by simpa using hB4,?_,?_⟩
     ·rw[F,List.flatMap_append]
      have EK:(Value.slice A3 (n+1) c3).ownBlock≠some w.heap.size:=Nq.out.cB T.out (by decide);simpa using Nq.out.setCell EK (p:=⟨w.heap.size,1,none⟩) (.slice A3 (n+1) c3)
     ·exact((r.out.drew.alloc _).grown Nu.out (fun g m=>.inr (S.out.lt g m).1)).setCell (.inl rfl) _
  ·go_wp2_with fail
   have hke:k=l.length:=by omega
   have W:(l.take k).filter (fun t=>decide (t.kind≠4))=pY s.data.toList:=by
    rw[hke,List.take_length];unfold pY;rw[HL.out]
   have H:=Un s.data.toList;have hsl:s.data.toList.length=s.size:=bQ s;have X:(pY s.data.toList).length=n:=by rw[d.out,W]
   have z:0<n:=by
    rw[<- X]
    cases hq:pY s.data.toList with
    | nil=>rw[hq]at H;exact H.elim
    | cons x xs=>simp
   refine bodyPost_ret (v:=.pointer (some ⟨w.heap.size,0,none⟩)) (by simp[results,Tryz.results64,go_sem]) rfl ?_;refine⟨⟨w.heap.size,w.heap.size,s,pY s.data.toList,A,n,c⟩,⟨⟨0,0,[]⟩,.slice none 0 0⟩,rfl,⟨X,by show n<=5000;omega,hs,?_,M8 H,UI _ H,M6 H,aab _⟩,rfl,rfl,rfl,rfl,⟨u.out,aK.nil _ _ _ _,?_,z,⟨List.Pairwise.nil,by simp⟩,by simp⟩,?_⟩
   ·intro t ht
    have:=Hf H t ht;rw[hsl]at this;exact this
   ·have:=S.out
    rw[W]at this;exact this.mono (by have:=L.out.size;omega)
   ·exact L.out.trans (r.out.toBelow (by have:=L.out.size;omega) (fun g m=>by omega))
end Go.Proofs.YtoepemlnlpamlaaGreat
