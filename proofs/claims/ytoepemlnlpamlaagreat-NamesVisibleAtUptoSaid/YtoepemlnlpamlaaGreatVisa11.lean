/- The law NamesVisibleAt holds where what it reads is of bulk at most 1048576: it returns true, and its arguments read as before. Part 11: Stmt. -/
import Derived.Test.YtoepemlnlpamlaaGreatVisa10
set_option maxRecDepth 100000
set_option maxHeartbeats 4000000
namespace Go.Proofs.YtoepemlnlpamlaaGreat
open Go.RowKit
theorem Us(E:PE)(C:E.Ok)(v:PV)(w:World)(A:PW w E v){p:PS}(B:v.st=p):Calls Tryz.prog 130 #[.pointer (some ⟨E.gp,0,none⟩)] w (bD E w v (jR E.bs E.l p)):=by
 subst B;exact xA E C v w A
theorem stmt_any(E:PE)(F:E.Ok)(f:Nat)(IH:∀f',f'<=f->yT E f')(v:PV)(w:World)(t:ae)(q:PS)(hpw:PW w E v)(hr:aP E.bs E.l (f+1) .stmt v.st=some ([t],q)):Calls Tryz.prog 74 #[.pointer (some ⟨E.gp,0,none⟩)] w (bD E w v (t,q)):=by
 rw[aP]at hr;have J:=kH hr;have HA:=kH (IH f (aab _));clear hr IH;have hgl:=hpw.blk.lt;have hk2:w.cell? ⟨E.gp,2,none⟩=some (.int .i64 (v.st.k:Int)):=hpw.blk.cell 2;obtain⟨k,hk⟩:∃x,bM E.l v.st=x:=⟨_,rfl⟩
 have HK:=kH hk;obtain⟨b1,hb1⟩:∃x,bF E.bs E.l v.st [118,97,114]=x:=⟨_,rfl⟩
 have HB1:=kH hb1;obtain⟨b2,hb2⟩:∃x,bF E.bs E.l v.st [105,102]=x:=⟨_,rfl⟩
 have HB2:=kH hb2;obtain⟨b3,hb3⟩:∃x,bF E.bs E.l v.st [119,104,105,108,101]=x:=⟨_,rfl⟩
 have HB3:=kH hb3;obtain⟨b4,hb4⟩:∃x,bF E.bs E.l v.st [102,111,114]=x:=⟨_,rfl⟩
 have oN:=kH hb4;obtain⟨b5,hb5⟩:∃x,bF E.bs E.l v.st [114,101,116,117,114,110]=x:=⟨_,rfl⟩
 have gG:=kH hb5;obtain⟨b6,hb6⟩:∃x,bF E.bs E.l v.st [97,115,115,101,114,116]=x:=⟨_,rfl⟩
 have nI:=kH hb6;clear hk hb1 hb2 hb3 hb4 hb5 hb6;go_in
 go_wp2_with fail
 generalize hW1:w.alloc (.cells #[.int .i64 0,.string ⟨#[]⟩,.int .i64 0,.int .i64 0,.slice none 0 0] 24)=W1
 have hb1:Below w.heap.size w W1:=by rw[<- hW1];exact ag _ _
 have iE:aj W1 w.heap.size 24 #[.int .i64 0,.string ⟨#[]⟩,.int .i64 0,.int .i64 0,.slice none 0 0]:=by rw[<- hW1];exact aj.new w _ _
 have hs1:W1.heap.size=w.heap.size+1:=by rw[<- hW1];simp
 have hm1:=PM.of_below (E:=E) (v:=v) hb1;have h1:=hpw.below hb1;have P1:=hm1;have pR:=kH hs1;have jK:=kH hm1;clear hW1 hs1 hm1 hb1;clear hk2;have TI:Hid (v.st=v.st):=kH rfl;cases b1
 case true=>
  obtain⟨x7,q7,hx,D⟩:∃x P,aP E.bs E.l f (.expr 1) (aL E.bs E.l (jR E.bs E.l (dK E.l (aB E.l v.st))).2 [61])=some ([x],P)/\(t,q)=(aI E.l (aL E.bs E.l P [59]) v.st.k 12 (cK E.bs E.l (aB E.l v.st)) [(jR E.bs E.l (dK E.l (aB E.l v.st))).1,x],aL E.bs E.l P [59]):=by
   have:=J.out;rw[HB1.out,if_pos rfl]at this;obtain⟨x,p,h1,L⟩:=fA this;simp at L;exact⟨x,p,h1,by rw[<- L.1,<- L.2]⟩
  have HX:=kH hx;have aN:=kH D;clear hx D J;refine(pJ E F v _ h1 TI.out [118,97,114] HB1.out).mono ?_;rintro e w2 ⟨rfl,v2,hv2,L,hm2⟩;have fU:=kH hv2;have B:=hm2.blk h1 iE;have P2:=P1.trans hm2;clear hv2 hm2;go_wp2_with fail
  refine(U5 E F v2 _ L fU.out).mono ?_;rintro e w3 ⟨rfl,v3,hv3,h3,eB⟩;have fO:=kH hv3;have cZ:=eB.blk L B;have P3:=P2.trans eB;clear hv3 eB;go_wp2_with fail
  refine(Us E F v3 _ h3 fO.out).mono ?_;rintro e w4 ⟨k4,t4,a4,z4,A4,n4,c4,rfl,kZ,v4,c,h4,iD⟩;try dsimp only at c kZ
  have jf:=kH c;have ek:=iD.blk h3 cZ;have P4:=P3.trans iD;replace kZ:=aC.weak (Q:=fun g=>w.heap.size+1<=g) (fun g _ Z=>aac cZ.lt Z) _ _ kZ
  clear c iD;go_wp2_with fail
  generalize jD:w4.alloc (.cells #[.int .i64 k4,.string t4,.int .i64 a4,.int .i64 z4,.slice A4 n4 c4] 24)=w5
  have hb5:Below w4.heap.size w4 w5:=by rw[<- jD];exact ag _ _
  have X4:gZ w5 _ w4.heap.size _ (.int .i64 k4) (.string t4) (.int .i64 a4) (.int .i64 z4) (.slice A4 n4 c4):=⟨by rw[<- jD];exact aj.new w4 _ _,aC.keeps (bZ.of_below hb5) _ _ kZ⟩
  have hs5:w5.heap.size=w4.heap.size+1:=by rw[<- jD];simp
  have h5:=h4.below hb5;have eZ:=ek.below hb5 ek.lt;have P5:=P4.trans (PM.of_below hb5);obtain⟨v5,hv5⟩:∃G,G=v4:=⟨_,rfl⟩
  have HV5:=jf;rw[<- hv5]at h5 P5 HV5;try rw[<- hs5]
  clear hv5 jD kZ hs5;refine(kg E F v5 _ h5 HV5.out [61]).mono ?_;rintro e w6 ⟨rfl,S,u,h6,gU⟩;have lU:=kH u;have gI:=gU.blk h5 eZ;have P6:=P5.trans gU;replace X4:=X4.pm gU h5
  clear u gU;have A:=HA.out.expr 1 S w6 x7 q7 h6 (by omega) (by omega) (by rw[lU.out];exact HX.out);have HC:=kH A;clear A;go_wp2_with fail
  refine(HC.out).mono ?_;rintro e U ⟨k7,t7,a7,z7,A7,n7,c7,rfl,lQ,v7,R,h7,ja⟩;try dsimp only at R lQ
  have lT:=kH R;have fD:=ja.blk h6 gI;have P7:=P6.trans ja;replace lQ:=aC.weak (Q:=fun g=>w.heap.size+1<=g) (fun g _ Z=>aac gI.lt Z) _ _ lQ
  replace X4:=X4.pm ja h6
  clear R ja;go_wp2_with fail
  generalize oz:U.alloc (.cells #[.int .i64 k7,.string t7,.int .i64 a7,.int .i64 z7,.slice A7 n7 c7] 24)=V
  have dU:Below U.heap.size U V:=by rw[<- oz];exact ag _ _
  have X7:gZ V _ U.heap.size _ (.int .i64 k7) (.string t7) (.int .i64 a7) (.int .i64 z7) (.slice A7 n7 c7):=⟨by rw[<- oz];exact aj.new U _ _,aC.keeps (bZ.of_below dU) _ _ lQ⟩
  have jH:V.heap.size=U.heap.size+1:=by rw[<- oz];simp
  have h8:=h7.below dU;have eF:=fD.below dU fD.lt;have P8:=P7.trans (PM.of_below dU);replace X4:=X4.below dU
  obtain⟨v8,ed⟩:∃G,G=v7:=⟨_,rfl⟩
  have gQ:=lT;rw[<- ed]at h8 P8 gQ;try rw[<- jH]
  clear ed oz lQ jH;refine(kg E F v8 _ h8 gQ.out [59]).mono ?_;rintro e w9 ⟨rfl,v9,gX,T,fZ⟩;have kE:=kH gX;have eU:=fZ.blk h8 eF;have P9:=P8.trans fZ;replace X4:=X4.pm fZ h8
  replace X7:=X7.pm fZ h8
  clear gX fZ;obtain⟨⟨qaX4,qbX4,qcX4,qdX4,qeX4⟩,qgX4,qhX4,qiX4,qjX4,qkX4⟩:=X4.1.five;have qlX4:=X4.1.lt;obtain⟨⟨Xk,Xi,Xg,Xe,Xc⟩,Xa,WX,WV,WT,WR⟩:=X7.1.five;have WO:=X7.1.lt;go_wp2_with fail
  clear qaX4 qbX4 qcX4 qdX4 qeX4 qgX4 qhX4 qiX4 qjX4 qkX4 qlX4;clear Xk Xi Xg Xe Xc Xa WX WV WT WR WO;have sj:=kH (zk X4.2 X7.2 (by have:=eU.lt;omega));generalize GQ:w9.alloc (.cells #[.int .i64 k4,.string t4,.int .i64 a4,.int .i64 z4,.slice A4 n4 c4,.int .i64 k7,.string t7,.int .i64 a7,.int .i64 z7,.slice A7 n7 c7] 24)=aV at sj⊢
  have jg:Below w9.heap.size w9 aV:=by rw[<- GQ];exact ag _ _
  have C:=T.below jg;have dN:=eU.below jg eU.lt;have jV:=P9.trans (PM.of_below jg);obtain⟨N,gy⟩:∃G,G=v9:=⟨_,rfl⟩
  have jc:=kE;rw[<- gy]at C jV jc;clear gy GQ;refine(dV E F N _ C v.st.k 12 (cK E.bs E.l (aB E.l v.st)) (w.heap.size+1) (some ⟨w9.heap.size,0,none⟩) 2 2 [(jR E.bs E.l (dK E.l (aB E.l v.st))).1,x7] sj.out).mono ?_;rintro e jB ⟨rfl,il,oC⟩;have H:=C.below il;have jh:=dN.below il dN.lt;obtain⟨⟨r0,r1,r2,r3,r4⟩,g0,g1,g2,g3,g4⟩:=jh.five;go_wp2_with fail
  have aO:=kH (bJ (v:=v) H (jV.trans (PM.of_below il)) rfl jh hgl oC);clear oC;refine bodyPost_ret (v:=.agg #[.int .i64 12,.string (bf (cK E.bs E.l (aB E.l v.st))),.int .i64 (bP E.l N.st v.st.k [(jR E.bs E.l (dK E.l (aB E.l v.st))).1,x7]),.int .i64 (N.st.last:Int),.slice (some ⟨w9.heap.size,0,none⟩) 2 2]) (by simp[results,Tryz.results74,go_sem,r0,r1,r2,r3,r4]) rfl ?_;exact Eq.mp (congrArg (fun r=>bD E w v r _ _) (show(aI E.l N.st v.st.k 12 (cK E.bs E.l (aB E.l v.st)) [(jR E.bs E.l (dK E.l (aB E.l v.st))).1,x7],N.st)=_ by rw[aN.out,jc.out])) aO.out
 have B:=J.out;rw[HB1.out,if_neg (by simp)]at B;replace J:=kH B
 clear B;refine(qV E F v _ h1 TI.out [118,97,114] HB1.out).mono ?_;rintro e w2 ⟨rfl,v2,hv2,L,hm2⟩;have fU:=kH hv2;have B:=hm2.blk h1 iE;have P2:=P1.trans hm2;clear hv2 hm2;go_wp2_with fail
 refine(Cy E F v2 _ L fU.out [105,102] HB2.out).mono ?_;rintro e w3 ⟨rfl,v3,hv3,h3,eB⟩;have fO:=kH hv3;have cZ:=eB.blk L B;have P3:=P2.trans eB;clear hv3 eB;cases b2
 case true=>
  have B:=J.out;rw[HB2.out,if_pos rfl]at B;have A:=HA.out.branch v3 w3 t q h3 (by rw[fO.out];exact IA HB2.out) (by rw[fO.out];exact B);have HC:=kH A;clear A B;go_wp2_with fail
  refine(HC.out).mono ?_;rintro e w4 ⟨k4,t4,a4,z4,A4,n4,c4,rfl,kZ,v4,c,h4,iD⟩;try dsimp only at c kZ
  have jf:=kH c;have ek:=iD.blk h3 cZ;have P4:=P3.trans iD;replace kZ:=aC.weak (Q:=fun g=>w.heap.size+1<=g) (fun g _ Z=>aac cZ.lt Z) _ _ kZ
  clear c iD;have aN:=trivial;obtain⟨⟨r0,r1,r2,r3,r4⟩,g0,g1,g2,g3,g4⟩:=ek.five;go_wp2_with fail
  have aO:=kH (bJ (v:=v) h4 P4 rfl ek hgl kZ);clear kZ;rw[jf.out]at aO;refine bodyPost_ret (v:=.agg #[.int .i64 k4,.string t4,.int .i64 a4,.int .i64 z4,.slice A4 n4 c4]) (by simp[results,Tryz.results74,go_sem,r0,r1,r2,r3,r4]) rfl ?_;try rw[aN.out]
  exact aO.out
 have B:=J.out;rw[HB2.out,if_neg (by simp)]at B;replace J:=kH B
 clear B;go_wp2_with fail
 cases b3
 case true=>
  obtain⟨x4,q4,x6,q6,hx,hy,D⟩:∃x P y q2,aP E.bs E.l f (.expr 1) (aB E.l v.st)=some ([x],P)/\aP E.bs E.l f .block P=some ([y],q2)/\(t,q)=(aI E.l q2 v.st.k 15 [] [x,y],q2):=by
   have:=J.out;rw[HB3.out,if_pos rfl]at this;obtain⟨x,p,h1,L⟩:=fA this;obtain⟨y,p2,h3,h4⟩:=fA L;simp at h4;exact⟨x,p,y,p2,h1,h3,by rw[<- h4.1,<- h4.2]⟩
  have HX:=kH hx;have HY:=kH hy;have aN:=kH D;clear hx hy D J;refine(pJ E F v3 _ h3 fO.out [119,104,105,108,101] HB3.out).mono ?_;rintro e w4 ⟨rfl,v4,c,h4,iD⟩;have jf:=kH c;have ek:=iD.blk h3 cZ;have P4:=P3.trans iD;clear c iD;have A:=HA.out.expr 1 v4 w4 x4 q4 h4 (by omega) (by omega) (by rw[jf.out];exact HX.out);have HC:=kH A;clear A;go_wp2_with fail
  refine(HC.out).mono ?_;rintro e w5 ⟨k5,t5,a5,z5,A5,n5,c5,rfl,jU,v5,hv5,h5,iC⟩;try dsimp only at hv5 jU
  have HV5:=kH hv5;have eZ:=iC.blk h4 ek;have P5:=P4.trans iC;replace jU:=aC.weak (Q:=fun g=>w.heap.size+1<=g) (fun g _ Z=>aac ek.lt Z) _ _ jU
  clear hv5 iC;go_wp2_with fail
  generalize uJ:w5.alloc (.cells #[.int .i64 k5,.string t5,.int .i64 a5,.int .i64 z5,.slice A5 n5 c5] 24)=w6
  have hb6:Below w5.heap.size w5 w6:=by rw[<- uJ];exact ag _ _
  have X5:gZ w6 _ w5.heap.size _ (.int .i64 k5) (.string t5) (.int .i64 a5) (.int .i64 z5) (.slice A5 n5 c5):=⟨by rw[<- uJ];exact aj.new w5 _ _,aC.keeps (bZ.of_below hb6) _ _ jU⟩
  have hs6:w6.heap.size=w5.heap.size+1:=by rw[<- uJ];simp
  have h6:=h5.below hb6;have gI:=eZ.below hb6 eZ.lt;have P6:=P5.trans (PM.of_below hb6);obtain⟨S,u⟩:∃G,G=v5:=⟨_,rfl⟩
  have lU:=HV5;rw[<- u]at h6 P6 lU;try rw[<- hs6]
  clear u uJ jU hs6;have A:=HA.out.block S w6 x6 q6 h6 (by rw[lU.out];exact HY.out);have vS:=kH A;clear A;refine(vS.out).mono ?_;rintro e U ⟨k7,t7,a7,z7,A7,n7,c7,rfl,lQ,v7,R,h7,ja⟩;try dsimp only at R lQ
  have lT:=kH R;have fD:=ja.blk h6 gI;have P7:=P6.trans ja;replace lQ:=aC.weak (Q:=fun g=>w.heap.size+1<=g) (fun g _ Z=>aac gI.lt Z) _ _ lQ
  replace X5:=X5.pm ja h6
  clear R ja;obtain⟨⟨Kn,Kl,Kj,Kh,Ke⟩,Kb,J9,J7,J5,J3⟩:=X5.1.five;have JZ:=X5.1.lt;go_wp2_with fail
  clear Kn Kl Kj Kh Ke Kb J9 J7 J5 J3 JZ;generalize oz:U.alloc (.cells #[.int .i64 k7,.string t7,.int .i64 a7,.int .i64 z7,.slice A7 n7 c7] 24)=V
  have dU:Below U.heap.size U V:=by rw[<- oz];exact ag _ _
  have X7:gZ V _ U.heap.size _ (.int .i64 k7) (.string t7) (.int .i64 a7) (.int .i64 z7) (.slice A7 n7 c7):=⟨by rw[<- oz];exact aj.new U _ _,aC.keeps (bZ.of_below dU) _ _ lQ⟩
  have jH:V.heap.size=U.heap.size+1:=by rw[<- oz];simp
  have h8:=h7.below dU;have eF:=fD.below dU fD.lt;have P8:=P7.trans (PM.of_below dU);replace X5:=X5.below dU
  obtain⟨v8,ed⟩:∃G,G=v7:=⟨_,rfl⟩
  have gQ:=lT;rw[<- ed]at h8 P8 gQ;try rw[<- jH]
  clear ed oz lQ jH;have Ib:=kH (zk X5.2 X7.2 (by have:=eF.lt;omega));generalize qP:V.alloc (.cells #[.int .i64 k5,.string t5,.int .i64 a5,.int .i64 z5,.slice A5 n5 c5,.int .i64 k7,.string t7,.int .i64 a7,.int .i64 z7,.slice A7 n7 c7] 24)=w9 at Ib⊢
  have eP:Below V.heap.size V w9:=by rw[<- qP];exact ag _ _
  have T:=h8.below eP;have eU:=eF.below eP eF.lt;have P9:=P8.trans (PM.of_below eP);obtain⟨v9,gX⟩:∃G,G=v8:=⟨_,rfl⟩
  have kE:=gQ;rw[<- gX]at T P9 kE;clear gX qP;refine(dV E F v9 _ T v.st.k 15 [] (w.heap.size+1) (some ⟨V.heap.size,0,none⟩) 2 2 [x4,x6] Ib.out).mono ?_;rintro e aV ⟨rfl,jg,kK⟩;have C:=T.below jg;have dN:=eU.below jg eU.lt;obtain⟨⟨r0,r1,r2,r3,r4⟩,g0,g1,g2,g3,g4⟩:=dN.five;go_wp2_with fail
  have aO:=kH (bJ (v:=v) C (P9.trans (PM.of_below jg)) rfl dN hgl kK);clear kK;refine bodyPost_ret (v:=.agg #[.int .i64 15,.string (bf []),.int .i64 (bP E.l v9.st v.st.k [x4,x6]),.int .i64 (v9.st.last:Int),.slice (some ⟨V.heap.size,0,none⟩) 2 2]) (by simp[results,Tryz.results74,go_sem,r0,r1,r2,r3,r4]) rfl ?_;exact Eq.mp (congrArg (fun r=>bD E w v r _ _) (show(aI E.l v9.st v.st.k 15 [] [x4,x6],v9.st)=_ by rw[aN.out,kE.out])) aO.out
 have B:=J.out;rw[HB3.out,if_neg (by simp)]at B;replace J:=kH B
 clear B;refine(qV E F v3 _ h3 fO.out [119,104,105,108,101] HB3.out).mono ?_;rintro e w4 ⟨rfl,v4,c,h4,iD⟩;have jf:=kH c;have ek:=iD.blk h3 cZ;have P4:=P3.trans iD;clear c iD;go_wp2_with fail
 cases b4
 case true=>
  obtain⟨x8,q8,Fu,Jb,x13,q13,hx,hy,hz,D⟩:∃x P y q2 z q3,aP E.bs E.l f (.expr 1) (aL E.bs E.l (dK E.l (aB E.l v.st)) [61])=some ([x],P)/\aP E.bs E.l f (.expr 1) (aL E.bs E.l P [116,111])=some ([y],q2)/\aP E.bs E.l f .block q2=some ([z],q3)/\(t,q)=(aI E.l q3 v.st.k 16 (cK E.bs E.l (aB E.l v.st)) [x,y,z],q3):=by
   have:=J.out;rw[oN.out,if_pos rfl]at this;obtain⟨x,p,h1,L⟩:=fA this;obtain⟨y,p2,h3,h4⟩:=fA L;obtain⟨z,p3,h5,h6⟩:=fA h4;simp at h6;exact⟨x,p,y,p2,z,p3,h1,h3,h5,by rw[<- h6.1,<- h6.2]⟩
  have HX:=kH hx;have HY:=kH hy;have HZ:=kH hz;have aN:=kH D;clear hx hy hz D J;refine(pJ E F v4 _ h4 jf.out [102,111,114] oN.out).mono ?_;rintro e w5 ⟨rfl,v5,hv5,h5,iC⟩;have HV5:=kH hv5;have eZ:=iC.blk h4 ek;have P5:=P4.trans iC;clear hv5 iC;go_wp2_with fail
  refine(U5 E F v5 _ h5 HV5.out).mono ?_;rintro e w6 ⟨rfl,S,u,h6,gU⟩;have lU:=kH u;have gI:=gU.blk h5 eZ;have P6:=P5.trans gU;clear u gU;go_wp2_with fail
  refine(kg E F S _ h6 lU.out [61]).mono ?_;rintro e U ⟨rfl,v7,R,h7,ja⟩;have lT:=kH R;have fD:=ja.blk h6 gI;have P7:=P6.trans ja;clear R ja;have A:=HA.out.expr 1 v7 U x8 q8 h7 (by omega) (by omega) (by rw[lT.out];exact HX.out);have HC:=kH A;clear A;go_wp2_with fail
  refine(HC.out).mono ?_;rintro e V ⟨k8,t8,a8,z8,A8,n8,c8,rfl,sM,v8,ed,h8,dY⟩;try dsimp only at ed sM
  have gQ:=kH ed;have eF:=dY.blk h7 fD;have P8:=P7.trans dY;replace sM:=aC.weak (Q:=fun g=>w.heap.size+1<=g) (fun g _ Z=>aac fD.lt Z) _ _ sM
  clear ed dY;go_wp2_with fail
  generalize qP:V.alloc (.cells #[.int .i64 k8,.string t8,.int .i64 a8,.int .i64 z8,.slice A8 n8 c8] 24)=w9
  have eP:Below V.heap.size V w9:=by rw[<- qP];exact ag _ _
  have I:gZ w9 _ V.heap.size _ (.int .i64 k8) (.string t8) (.int .i64 a8) (.int .i64 z8) (.slice A8 n8 c8):=⟨by rw[<- qP];exact aj.new V _ _,aC.keeps (bZ.of_below eP) _ _ sM⟩
  have FB:w9.heap.size=V.heap.size+1:=by rw[<- qP];simp
  have T:=h8.below eP;have eU:=eF.below eP eF.lt;have P9:=P8.trans (PM.of_below eP);obtain⟨v9,gX⟩:∃G,G=v8:=⟨_,rfl⟩
  have kE:=gQ;rw[<- gX]at T P9 kE;try rw[<- FB]
  clear gX qP sM FB;refine(kg E F v9 _ T kE.out [116,111]).mono ?_;rintro e aV ⟨rfl,N,gy,C,b⟩;have jc:=kH gy;have dN:=b.blk T eU;have jV:=P9.trans b;replace I:=I.pm b T
  clear gy b;have A:=HA.out.expr 1 N aV Fu Jb C (by omega) (by omega) (by rw[jc.out];exact HY.out);have vS:=kH A;clear A;go_wp2_with fail
  refine(vS.out).mono ?_;rintro e jB ⟨k11,t11,Nf,LA,CV,n11,c11,rfl,oC,j,lX,H,oq⟩;try dsimp only at lX oC
  have nK:=kH lX;have jh:=oq.blk C dN;have rY:=jV.trans oq;replace oC:=aC.weak (Q:=fun g=>w.heap.size+1<=g) (fun g _ Z=>aac dN.lt Z) _ _ oC
  replace I:=I.pm oq C
  clear lX oq;go_wp2_with fail
  generalize zR:jB.alloc (.cells #[.int .i64 k11,.string t11,.int .i64 Nf,.int .i64 LA,.slice CV n11 c11] 24)=nA
  have tK:Below jB.heap.size jB nA:=by rw[<- zR];exact ag _ _
  have yg:gZ nA _ jB.heap.size _ (.int .i64 k11) (.string t11) (.int .i64 Nf) (.int .i64 LA) (.slice CV n11 c11):=⟨by rw[<- zR];exact aj.new jB _ _,aC.keeps (bZ.of_below tK) _ _ oC⟩
  have KF:nA.heap.size=jB.heap.size+1:=by rw[<- zR];simp
  have K:=H.below tK;have jb:=jh.below tK jh.lt;have nH:=rY.trans (PM.of_below tK);replace I:=I.below tK
  obtain⟨v12,lC⟩:∃G,G=j:=⟨_,rfl⟩
  have nT:=nK;rw[<- lC]at K nH nT;try rw[<- KF]
  clear lC zR oC KF;have A:=HA.out.block v12 nA x13 q13 K (by rw[nT.out];exact HZ.out);have HC3:=kH A;clear A;refine(HC3.out).mono ?_;rintro e vg ⟨k13,t13,a13,z13,A13,n13,c13,rfl,rQ,v13,zN,qj,Dm⟩;try dsimp only at zN rQ
  have Fg:=kH zN;have lZ:=Dm.blk K jb;have Hr:=nH.trans Dm;replace rQ:=aC.weak (Q:=fun g=>w.heap.size+1<=g) (fun g _ Z=>aac jb.lt Z) _ _ rQ
  replace I:=I.pm Dm K
  replace yg:=yg.pm Dm K
  clear zN Dm;obtain⟨⟨Km,Kk,Ki,Kg,Kc⟩,Ka,J8,J6,J4,J2⟩:=I.1.five;have JY:=I.1.lt;obtain⟨⟨Xl,Xj,Xh,Xf,Xd⟩,Xb,WY,WW,WU,WS⟩:=yg.1.five;have WQ:=yg.1.lt;go_wp2_with fail
  clear Km Kk Ki Kg Kc Ka J8 J6 J4 J2 JY;clear Xl Xj Xh Xf Xd Xb WY WW WU WS WQ;generalize Yh:vg.alloc (.cells #[.int .i64 k13,.string t13,.int .i64 a13,.int .i64 z13,.slice A13 n13 c13] 24)=yu
  have cO:Below vg.heap.size vg yu:=by rw[<- Yh];exact ag _ _
  have X13:gZ yu _ vg.heap.size _ (.int .i64 k13) (.string t13) (.int .i64 a13) (.int .i64 z13) (.slice A13 n13 c13):=⟨by rw[<- Yh];exact aj.new vg _ _,aC.keeps (bZ.of_below cO) _ _ rQ⟩
  have hs14:yu.heap.size=vg.heap.size+1:=by rw[<- Yh];simp
  have zA:=qj.below cO;have wI:=lZ.below cO lZ.lt;have TB:=Hr.trans (PM.of_below cO);replace I:=I.below cO
  replace yg:=yg.below cO
  obtain⟨v14,NR⟩:∃G,G=v13:=⟨_,rfl⟩
  have YC:=Fg;rw[<- NR]at zA TB YC;try rw[<- hs14]
  clear NR Yh rQ hs14;have HK15:=kH (zi I.2 yg.2 X13.2 (by have:=wI.lt;omega));generalize KS:yu.alloc (.cells #[.int .i64 k8,.string t8,.int .i64 a8,.int .i64 z8,.slice A8 n8 c8,.int .i64 k11,.string t11,.int .i64 Nf,.int .i64 LA,.slice CV n11 c11,.int .i64 k13,.string t13,.int .i64 a13,.int .i64 z13,.slice A13 n13 c13] 24)=IW at HK15⊢
  have qh:Below yu.heap.size yu IW:=by rw[<- KS];exact ag _ _
  have FK:=zA.below qh;have Yi:=wI.below qh wI.lt;have P15:=TB.trans (PM.of_below qh);obtain⟨v15,RO⟩:∃G,G=v14:=⟨_,rfl⟩
  have TH:=YC;rw[<- RO]at FK P15 TH;clear RO KS;refine(dV E F v15 _ FK v.st.k 16 (cK E.bs E.l (aB E.l v.st)) (w.heap.size+1) (some ⟨yu.heap.size,0,none⟩) 3 3 [x8,Fu,x13] HK15.out).mono ?_;rintro e w16 ⟨rfl,hb16,hT16⟩;have h16:=FK.below hb16;have EY:=Yi.below hb16 Yi.lt;obtain⟨⟨r0,r1,r2,r3,r4⟩,g0,g1,g2,g3,g4⟩:=EY.five;go_wp2_with fail
  have aO:=kH (bJ (v:=v) h16 (P15.trans (PM.of_below hb16)) rfl EY hgl hT16);clear hT16;refine bodyPost_ret (v:=.agg #[.int .i64 16,.string (bf (cK E.bs E.l (aB E.l v.st))),.int .i64 (bP E.l v15.st v.st.k [x8,Fu,x13]),.int .i64 (v15.st.last:Int),.slice (some ⟨yu.heap.size,0,none⟩) 3 3]) (by simp[results,Tryz.results74,go_sem,r0,r1,r2,r3,r4]) rfl ?_;exact Eq.mp (congrArg (fun r=>bD E w v r _ _) (show(aI E.l v15.st v.st.k 16 (cK E.bs E.l (aB E.l v.st)) [x8,Fu,x13],v15.st)=_ by rw[aN.out,TH.out])) aO.out
 have B:=J.out;rw[oN.out,if_neg (by simp)]at B;replace J:=kH B
 clear B;refine(qV E F v4 _ h4 jf.out [102,111,114] oN.out).mono ?_;rintro e w5 ⟨rfl,v5,hv5,h5,iC⟩;have HV5:=kH hv5;have eZ:=iC.blk h4 ek;have P5:=P4.trans iC;clear hv5 iC;go_wp2_with fail
 cases b5
 case true=>
  have B:=J.out;rw[gG.out,if_pos rfl]at B;obtain⟨b7,dF⟩:∃x,EA E.bs E.l (aB E.l v.st)=x:=⟨_,rfl⟩
  have gK:=kH dF;obtain⟨b8,dU⟩:∃x,bF E.bs E.l (aB E.l v.st) [110,111,116]=x:=⟨_,rfl⟩
  have vE:=kH dU;obtain⟨b9,eP⟩:∃x,bF E.bs E.l (aB E.l v.st) [45]=x:=⟨_,rfl⟩
  have Ah:=kH eP;replace J:=kH B
  clear B dF dU eP;refine(pJ E F v5 _ h5 HV5.out [114,101,116,117,114,110] gG.out).mono ?_;rintro e w6 ⟨rfl,S,u,h6,gU⟩;have lU:=kH u;have gI:=gU.blk h5 eZ;have P6:=P5.trans gU;clear u gU;have hk2:w6.cell? ⟨E.gp,2,none⟩=some (.int .i64 (S.st.k:Int)):=h6.blk.cell 2;go_wp2_with fail
  refine(iK E F S _ h6 S.st.k 0 [] (w.heap.size+1)).mono ?_;rintro e U ⟨rfl,dF,lQ⟩;have h7:=h6.below dF;have fD:=gI.below dF gI.lt;have P7:=P6.trans (PM.of_below dF);clear hk2 dF;go_wp2_with fail
  generalize oz:U.alloc (.cells #[.int .i64 0,.string (bf []),.int .i64 (bP E.l S.st S.st.k []),.int .i64 (S.st.last:Int),.slice none 0 0] 24)=V
  have dU:Below U.heap.size U V:=by rw[<- oz];exact ag _ _
  have I:gZ V _ U.heap.size (aI E.l S.st S.st.k 0 [] []) (.int .i64 0) (.string (bf [])) (.int .i64 (bP E.l S.st S.st.k [])) (.int .i64 (S.st.last:Int)) (.slice none 0 0):=⟨by rw[<- oz];exact aj.new U _ _,aC.keeps (bZ.of_below dU) _ _ lQ⟩
  have h8:=h7.below dU;have eF:=fD.below dU fD.lt;have P8:=P7.trans (PM.of_below dU);have hlt7:=fD.lt;obtain⟨v8,ed⟩:∃G,G=S:=⟨_,rfl⟩
  have gQ:=lU;rw[<- ed]at h8 P8 gQ;clear ed oz lQ;refine(Xp E F v8 _ h8 gQ.out gK.out).mono ?_;rintro e w9 ⟨rfl,v9,gX,T,fZ⟩;have kE:=kH gX;have eU:=fZ.blk h8 eF;have P9:=P8.trans fZ;replace I:=I.pm fZ h8
  clear gX fZ;cases b7
  case true=>
   obtain⟨x7,q7,hx,D⟩:∃x P,aP E.bs E.l f (.expr 1) (aB E.l v.st)=some ([x],P)/\(t,q)=(aI E.l (aL E.bs E.l P [59]) v.st.k 17 [] [x],aL E.bs E.l P [59]):=by
    have:=J.out;rw[if_pos (by simp[gK.out])]at this;obtain⟨x,p,h1,L⟩:=fA this;simp at L;exact⟨x,p,h1,by rw[<- L.1,<- L.2]⟩
   have HX:=kH hx;have aN:=kH D;clear hx D J;have A:=HA.out.expr 1 v9 w9 x7 q7 T (by omega) (by omega) (by rw[kE.out];exact HX.out);have HC:=kH A;have hgI:=I.1.lt;clear A;go_wp2_with fail
   refine(HC.out).mono ?_;rintro e DD ⟨sI,m,W,d,sO,n,X,rfl,mU,v31,M,h31,nJ⟩;try dsimp only at M mU
   have Ff:=kH M;have xV:=nJ.blk T eU;have Nh:=P9.trans nJ;replace mU:=aC.weak (Q:=fun g=>w.heap.size+1<=g/\g≠U.heap.size) (fun g _ Z=>⟨aac eU.lt Z,by omega⟩) _ _ mU
   have pG:=nJ.blk T I.1;obtain⟨⟨q0,q1',q2,q3,q4⟩,Ja,I9,I8,I7,I6⟩:=pG.five;have EN:=pG.lt;clear M nJ I;go_wp2_with fail
   obtain⟨Y,Af,xW,qd⟩:=wO h31 Nh pG (by omega) (.int .i64 sI) (.string m) (.int .i64 W) (.int .i64 d) (.slice sO n X);have wH:=xV.keep (qd w.heap.size _ (by omega) xV);have o9:gZ _ _ _ _ (.int .i64 sI) (.string m) (.int .i64 W) (.int .i64 d) (.slice sO n X):=⟨xW,aC.keeps (w':=fw DD U.heap.size (.int .i64 sI) (.string m) (.int .i64 W) (.int .i64 d) (.slice sO n X)) (fun g cs hP hc=>qd g cs hP.2 hc) _ _ mU⟩
   obtain⟨v32,hv32⟩:∃G,G=v31:=⟨_,rfl⟩
   have yj:=Ff;rw[<- hv32]at Y Af yj;clear hv32 xW qd mU pG q0 q1' q2 q3 q4 Ja I9 I8 I7 I6 EN;refine(kg E F v32 _ Y yj.out [59]).mono ?_;rintro e vK ⟨rfl,v33,xH,Eb,xN⟩;have BZ:=kH xH;have uL:=xN.blk Y wH;have Hq:=Af.trans xN;replace o9:=o9.pm xN Y
   clear xH xN;obtain⟨⟨Mg,Mf,Me,Md,Mc⟩,Ma,L9,L8,L6,LZ⟩:=o9.1.five;have LY:=o9.1.lt;go_wp2_with fail
   clear Mg Mf Me Md Mc Ma L9 L8 L6 LZ LY;replace o9:=o9.weak (Q:=fun g=>w.heap.size+1<=g) (fun g _ hp=>hp.1)
   have Ic:=kH (j5 o9.2 (by have:=uL.lt;omega));generalize GN:vK.alloc (.cells #[.int .i64 sI,.string m,.int .i64 W,.int .i64 d,.slice sO n X] 24)=Qv at Ic⊢
   have oU:Below vK.heap.size vK Qv:=by rw[<- GN];exact ag _ _
   have BM:=Eb.below oU;have xU:=uL.below oU uL.lt;have Pq:=Hq.trans (PM.of_below oU);obtain⟨O,hv34⟩:∃G,G=v33:=⟨_,rfl⟩
   have Ht:=BZ;rw[<- hv34]at BM Pq Ht;clear hv34 GN;refine(dV E F O _ BM v.st.k 17 [] (w.heap.size+1) (some ⟨vK.heap.size,0,none⟩) 1 1 [x7] Ic.out).mono ?_;rintro e w35 ⟨rfl,xP,GR⟩;have vw:=BM.below xP;have GU:=xU.below xP xU.lt;obtain⟨⟨r0,r1,r2,r3,r4⟩,g0,g1,g2,g3,g4⟩:=GU.five;go_wp2_with fail
   have aO:=kH (bJ (v:=v) vw (Pq.trans (PM.of_below xP)) rfl GU hgl GR);clear GR;refine bodyPost_ret (v:=.agg #[.int .i64 17,.string (bf []),.int .i64 (bP E.l O.st v.st.k [x7]),.int .i64 (O.st.last:Int),.slice (some ⟨vK.heap.size,0,none⟩) 1 1]) (by simp[results,Tryz.results74,go_sem,r0,r1,r2,r3,r4]) rfl ?_;exact Eq.mp (congrArg (fun r=>bD E w v r _ _) (show(aI E.l O.st v.st.k 17 [] [x7],O.st)=_ by rw[aN.out,Ht.out])) aO.out
  go_wp2_with fail
  refine(Cy E F v9 _ T kE.out [110,111,116] vE.out).mono ?_;rintro e aV ⟨rfl,N,gy,C,b⟩;have jc:=kH gy;have dN:=b.blk T eU;have jV:=P9.trans b;replace I:=I.pm b T
  clear gy b;cases b8
  case true=>
   obtain⟨x7,q7,hx,D⟩:∃x P,aP E.bs E.l f (.expr 1) (aB E.l v.st)=some ([x],P)/\(t,q)=(aI E.l (aL E.bs E.l P [59]) v.st.k 17 [] [x],aL E.bs E.l P [59]):=by
    have:=J.out;rw[if_pos (by simp[vE.out])]at this;obtain⟨x,p,h1,L⟩:=fA this;simp at L;exact⟨x,p,h1,by rw[<- L.1,<- L.2]⟩
   have HX:=kH hx;have aN:=kH D;clear hx D J;have A:=HA.out.expr 1 N aV x7 q7 C (by omega) (by omega) (by rw[jc.out];exact HX.out);have HC:=kH A;have hgI:=I.1.lt;clear A;go_wp2_with fail
   refine(HC.out).mono ?_;rintro e DD ⟨sI,m,W,d,sO,n,X,rfl,mU,v31,M,h31,nJ⟩;try dsimp only at M mU
   have Ff:=kH M;have xV:=nJ.blk C dN;have Nh:=jV.trans nJ;replace mU:=aC.weak (Q:=fun g=>w.heap.size+1<=g/\g≠U.heap.size) (fun g _ Z=>⟨aac dN.lt Z,by omega⟩) _ _ mU
   have pG:=nJ.blk C I.1;obtain⟨⟨q0,q1',q2,q3,q4⟩,Ja,I9,I8,I7,I6⟩:=pG.five;have EN:=pG.lt;clear M nJ I;go_wp2_with fail
   obtain⟨Y,Af,xW,qd⟩:=wO h31 Nh pG (by omega) (.int .i64 sI) (.string m) (.int .i64 W) (.int .i64 d) (.slice sO n X);have wH:=xV.keep (qd w.heap.size _ (by omega) xV);have o9:gZ _ _ _ _ (.int .i64 sI) (.string m) (.int .i64 W) (.int .i64 d) (.slice sO n X):=⟨xW,aC.keeps (w':=fw DD U.heap.size (.int .i64 sI) (.string m) (.int .i64 W) (.int .i64 d) (.slice sO n X)) (fun g cs hP hc=>qd g cs hP.2 hc) _ _ mU⟩
   obtain⟨v32,hv32⟩:∃G,G=v31:=⟨_,rfl⟩
   have yj:=Ff;rw[<- hv32]at Y Af yj;clear hv32 xW qd mU pG q0 q1' q2 q3 q4 Ja I9 I8 I7 I6 EN;refine(kg E F v32 _ Y yj.out [59]).mono ?_;rintro e vK ⟨rfl,v33,xH,Eb,xN⟩;have BZ:=kH xH;have uL:=xN.blk Y wH;have Hq:=Af.trans xN;replace o9:=o9.pm xN Y
   clear xH xN;obtain⟨⟨Mg,Mf,Me,Md,Mc⟩,Ma,L9,L8,L6,LZ⟩:=o9.1.five;have LY:=o9.1.lt;go_wp2_with fail
   clear Mg Mf Me Md Mc Ma L9 L8 L6 LZ LY;replace o9:=o9.weak (Q:=fun g=>w.heap.size+1<=g) (fun g _ hp=>hp.1)
   have Ic:=kH (j5 o9.2 (by have:=uL.lt;omega));generalize GN:vK.alloc (.cells #[.int .i64 sI,.string m,.int .i64 W,.int .i64 d,.slice sO n X] 24)=Qv at Ic⊢
   have oU:Below vK.heap.size vK Qv:=by rw[<- GN];exact ag _ _
   have BM:=Eb.below oU;have xU:=uL.below oU uL.lt;have Pq:=Hq.trans (PM.of_below oU);obtain⟨O,hv34⟩:∃G,G=v33:=⟨_,rfl⟩
   have Ht:=BZ;rw[<- hv34]at BM Pq Ht;clear hv34 GN;refine(dV E F O _ BM v.st.k 17 [] (w.heap.size+1) (some ⟨vK.heap.size,0,none⟩) 1 1 [x7] Ic.out).mono ?_;rintro e w35 ⟨rfl,xP,GR⟩;have vw:=BM.below xP;have GU:=xU.below xP xU.lt;obtain⟨⟨r0,r1,r2,r3,r4⟩,g0,g1,g2,g3,g4⟩:=GU.five;go_wp2_with fail
   have aO:=kH (bJ (v:=v) vw (Pq.trans (PM.of_below xP)) rfl GU hgl GR);clear GR;refine bodyPost_ret (v:=.agg #[.int .i64 17,.string (bf []),.int .i64 (bP E.l O.st v.st.k [x7]),.int .i64 (O.st.last:Int),.slice (some ⟨vK.heap.size,0,none⟩) 1 1]) (by simp[results,Tryz.results74,go_sem,r0,r1,r2,r3,r4]) rfl ?_;exact Eq.mp (congrArg (fun r=>bD E w v r _ _) (show(aI E.l O.st v.st.k 17 [] [x7],O.st)=_ by rw[aN.out,Ht.out])) aO.out
  go_wp2_with fail
  refine(Cy E F N _ C jc.out [45] Ah.out).mono ?_;rintro e jB ⟨rfl,j,lX,H,oq⟩;have nK:=kH lX;have jh:=oq.blk C dN;have rY:=jV.trans oq;replace I:=I.pm oq C
  clear lX oq;cases b9
  case true=>
   obtain⟨x7,q7,hx,D⟩:∃x P,aP E.bs E.l f (.expr 1) (aB E.l v.st)=some ([x],P)/\(t,q)=(aI E.l (aL E.bs E.l P [59]) v.st.k 17 [] [x],aL E.bs E.l P [59]):=by
    have:=J.out;rw[if_pos (by simp[Ah.out])]at this;obtain⟨x,p,h1,L⟩:=fA this;simp at L;exact⟨x,p,h1,by rw[<- L.1,<- L.2]⟩
   have HX:=kH hx;have aN:=kH D;clear hx D J;have A:=HA.out.expr 1 j jB x7 q7 H (by omega) (by omega) (by rw[nK.out];exact HX.out);have HC:=kH A;have hgI:=I.1.lt;clear A;go_wp2_with fail
   refine(HC.out).mono ?_;rintro e DD ⟨sI,m,W,d,sO,n,X,rfl,mU,v31,M,h31,nJ⟩;try dsimp only at M mU
   have Ff:=kH M;have xV:=nJ.blk H jh;have Nh:=rY.trans nJ;replace mU:=aC.weak (Q:=fun g=>w.heap.size+1<=g/\g≠U.heap.size) (fun g _ Z=>⟨aac jh.lt Z,by omega⟩) _ _ mU
   have pG:=nJ.blk H I.1;obtain⟨⟨q0,q1',q2,q3,q4⟩,Ja,I9,I8,I7,I6⟩:=pG.five;have EN:=pG.lt;clear M nJ I;go_wp2_with fail
   obtain⟨Y,Af,xW,qd⟩:=wO h31 Nh pG (by omega) (.int .i64 sI) (.string m) (.int .i64 W) (.int .i64 d) (.slice sO n X);have wH:=xV.keep (qd w.heap.size _ (by omega) xV);have o9:gZ _ _ _ _ (.int .i64 sI) (.string m) (.int .i64 W) (.int .i64 d) (.slice sO n X):=⟨xW,aC.keeps (w':=fw DD U.heap.size (.int .i64 sI) (.string m) (.int .i64 W) (.int .i64 d) (.slice sO n X)) (fun g cs hP hc=>qd g cs hP.2 hc) _ _ mU⟩
   obtain⟨v32,hv32⟩:∃G,G=v31:=⟨_,rfl⟩
   have yj:=Ff;rw[<- hv32]at Y Af yj;clear hv32 xW qd mU pG q0 q1' q2 q3 q4 Ja I9 I8 I7 I6 EN;refine(kg E F v32 _ Y yj.out [59]).mono ?_;rintro e vK ⟨rfl,v33,xH,Eb,xN⟩;have BZ:=kH xH;have uL:=xN.blk Y wH;have Hq:=Af.trans xN;replace o9:=o9.pm xN Y
   clear xH xN;obtain⟨⟨Mg,Mf,Me,Md,Mc⟩,Ma,L9,L8,L6,LZ⟩:=o9.1.five;have LY:=o9.1.lt;go_wp2_with fail
   clear Mg Mf Me Md Mc Ma L9 L8 L6 LZ LY;replace o9:=o9.weak (Q:=fun g=>w.heap.size+1<=g) (fun g _ hp=>hp.1)
   have Ic:=kH (j5 o9.2 (by have:=uL.lt;omega));generalize GN:vK.alloc (.cells #[.int .i64 sI,.string m,.int .i64 W,.int .i64 d,.slice sO n X] 24)=Qv at Ic⊢
   have oU:Below vK.heap.size vK Qv:=by rw[<- GN];exact ag _ _
   have BM:=Eb.below oU;have xU:=uL.below oU uL.lt;have Pq:=Hq.trans (PM.of_below oU);obtain⟨O,hv34⟩:∃G,G=v33:=⟨_,rfl⟩
   have Ht:=BZ;rw[<- hv34]at BM Pq Ht;clear hv34 GN;refine(dV E F O _ BM v.st.k 17 [] (w.heap.size+1) (some ⟨vK.heap.size,0,none⟩) 1 1 [x7] Ic.out).mono ?_;rintro e w35 ⟨rfl,xP,GR⟩;have vw:=BM.below xP;have GU:=xU.below xP xU.lt;obtain⟨⟨r0,r1,r2,r3,r4⟩,g0,g1,g2,g3,g4⟩:=GU.five;go_wp2_with fail
   have aO:=kH (bJ (v:=v) vw (Pq.trans (PM.of_below xP)) rfl GU hgl GR);clear GR;refine bodyPost_ret (v:=.agg #[.int .i64 17,.string (bf []),.int .i64 (bP E.l O.st v.st.k [x7]),.int .i64 (O.st.last:Int),.slice (some ⟨vK.heap.size,0,none⟩) 1 1]) (by simp[results,Tryz.results74,go_sem,r0,r1,r2,r3,r4]) rfl ?_;exact Eq.mp (congrArg (fun r=>bD E w v r _ _) (show(aI E.l O.st v.st.k 17 [] [x7],O.st)=_ by rw[aN.out,Ht.out])) aO.out
  have aN:Hid ((t,q)=(aI E.l (aL E.bs E.l (aB E.l v.st) [59]) v.st.k 17 [] [aI E.l S.st S.st.k 0 [] []],aL E.bs E.l (aB E.l v.st) [59])):=kH (by
   have:=J.out;rw[if_neg (by rw[gK.out,vE.out,Ah.out];simp)]at this;simp at this
   rw[lU.out,<- this.1,<- this.2])
  clear J;go_wp2_with fail
  refine(kg E F j _ H nK.out [59]).mono ?_;rintro e nA ⟨rfl,v12,lC,K,iL⟩;have nT:=kH lC;have jb:=iL.blk H jh;have nH:=rY.trans iL;replace I:=I.pm iL H
  clear lC iL;obtain⟨⟨Km,Kk,Ki,Kg,Kc⟩,Ka,J8,J6,J4,J2⟩:=I.1.five;have JY:=I.1.lt;go_wp2_with fail
  clear Km Kk Ki Kg Kc Ka J8 J6 J4 J2 JY;have TV:=kH (j5 I.2 (by have:=jb.lt;omega));generalize SH:nA.alloc (.cells #[.int .i64 0,.string (bf []),.int .i64 (bP E.l S.st S.st.k []),.int .i64 (S.st.last:Int),.slice none 0 0] 24)=vg at TV⊢
  have ik:Below nA.heap.size nA vg:=by rw[<- SH];exact ag _ _
  have qj:=K.below ik;have lZ:=jb.below ik jb.lt;have Hr:=nH.trans (PM.of_below ik);obtain⟨v13,zN⟩:∃G,G=v12:=⟨_,rfl⟩
  have Fg:=nT;rw[<- zN]at qj Hr Fg;clear zN SH;refine(dV E F v13 _ qj v.st.k 17 [] (w.heap.size+1) (some ⟨nA.heap.size,0,none⟩) 1 1 [aI E.l S.st S.st.k 0 [] []] TV.out).mono ?_;rintro e yu ⟨rfl,cO,BL⟩;have zA:=qj.below cO;have wI:=lZ.below cO lZ.lt;obtain⟨⟨r0,r1,r2,r3,r4⟩,g0,g1,g2,g3,g4⟩:=wI.five;go_wp2_with fail
  have aO:=kH (bJ (v:=v) zA (Hr.trans (PM.of_below cO)) rfl wI hgl BL);clear BL;refine bodyPost_ret (v:=.agg #[.int .i64 17,.string (bf []),.int .i64 (bP E.l v13.st v.st.k [aI E.l S.st S.st.k 0 [] []]),.int .i64 (v13.st.last:Int),.slice (some ⟨nA.heap.size,0,none⟩) 1 1]) (by simp[results,Tryz.results74,go_sem,r0,r1,r2,r3,r4]) rfl ?_;exact Eq.mp (congrArg (fun r=>bD E w v r _ _) (show(aI E.l v13.st v.st.k 17 [] [aI E.l S.st S.st.k 0 [] []],v13.st)=_ by rw[aN.out,Fg.out])) aO.out
 have B:=J.out;rw[gG.out,if_neg (by simp)]at B;replace J:=kH B
 clear B;refine(qV E F v5 _ h5 HV5.out [114,101,116,117,114,110] gG.out).mono ?_;rintro e w6 ⟨rfl,S,u,h6,gU⟩;have lU:=kH u;have gI:=gU.blk h5 eZ;have P6:=P5.trans gU;clear u gU;go_wp2_with fail
 cases b6
 case true=>
  obtain⟨x7,q7,hx,D⟩:∃x P,aP E.bs E.l f (.expr 1) (aB E.l v.st)=some ([x],P)/\(t,q)=(aI E.l (aL E.bs E.l P [59]) v.st.k 18 [] [x],aL E.bs E.l P [59]):=by
   have:=J.out;rw[nI.out,if_pos rfl]at this;obtain⟨x,p,h1,L⟩:=fA this;simp at L;exact⟨x,p,h1,by rw[<- L.1,<- L.2]⟩
  have HX:=kH hx;have aN:=kH D;clear hx D J;refine(pJ E F S _ h6 lU.out [97,115,115,101,114,116] nI.out).mono ?_;rintro e U ⟨rfl,v7,R,h7,ja⟩;have lT:=kH R;have fD:=ja.blk h6 gI;have P7:=P6.trans ja;clear R ja;have A:=HA.out.expr 1 v7 U x7 q7 h7 (by omega) (by omega) (by rw[lT.out];exact HX.out);have HC:=kH A;clear A;go_wp2_with fail
  refine(HC.out).mono ?_;rintro e V ⟨k8,t8,a8,z8,A8,n8,c8,rfl,sM,v8,ed,h8,dY⟩;try dsimp only at ed sM
  have gQ:=kH ed;have eF:=dY.blk h7 fD;have P8:=P7.trans dY;replace sM:=aC.weak (Q:=fun g=>w.heap.size+1<=g) (fun g _ Z=>aac fD.lt Z) _ _ sM
  clear ed dY;go_wp2_with fail
  generalize qP:V.alloc (.cells #[.int .i64 k8,.string t8,.int .i64 a8,.int .i64 z8,.slice A8 n8 c8] 24)=w9
  have eP:Below V.heap.size V w9:=by rw[<- qP];exact ag _ _
  have I:gZ w9 _ V.heap.size _ (.int .i64 k8) (.string t8) (.int .i64 a8) (.int .i64 z8) (.slice A8 n8 c8):=⟨by rw[<- qP];exact aj.new V _ _,aC.keeps (bZ.of_below eP) _ _ sM⟩
  have FB:w9.heap.size=V.heap.size+1:=by rw[<- qP];simp
  have T:=h8.below eP;have eU:=eF.below eP eF.lt;have P9:=P8.trans (PM.of_below eP);obtain⟨v9,gX⟩:∃G,G=v8:=⟨_,rfl⟩
  have kE:=gQ;rw[<- gX]at T P9 kE;try rw[<- FB]
  clear gX qP sM FB;refine(kg E F v9 _ T kE.out [59]).mono ?_;rintro e aV ⟨rfl,N,gy,C,b⟩;have jc:=kH gy;have dN:=b.blk T eU;have jV:=P9.trans b;replace I:=I.pm b T
  clear gy b;obtain⟨⟨Km,Kk,Ki,Kg,Kc⟩,Ka,J8,J6,J4,J2⟩:=I.1.five;have JY:=I.1.lt;go_wp2_with fail
  clear Km Kk Ki Kg Kc Ka J8 J6 J4 J2 JY;have Ie:=kH (j5 I.2 (by have:=dN.lt;omega));generalize uK:aV.alloc (.cells #[.int .i64 k8,.string t8,.int .i64 a8,.int .i64 z8,.slice A8 n8 c8] 24)=jB at Ie⊢
  have il:Below aV.heap.size aV jB:=by rw[<- uK];exact ag _ _
  have H:=C.below il;have jh:=dN.below il dN.lt;have rY:=jV.trans (PM.of_below il);obtain⟨j,lX⟩:∃G,G=N:=⟨_,rfl⟩
  have nK:=jc;rw[<- lX]at H rY nK;clear lX uK;refine(dV E F j _ H v.st.k 18 [] (w.heap.size+1) (some ⟨aV.heap.size,0,none⟩) 1 1 [x7] Ie.out).mono ?_;rintro e nA ⟨rfl,tK,hT12⟩;have K:=H.below tK;have jb:=jh.below tK jh.lt;obtain⟨⟨r0,r1,r2,r3,r4⟩,g0,g1,g2,g3,g4⟩:=jb.five;go_wp2_with fail
  have aO:=kH (bJ (v:=v) K (rY.trans (PM.of_below tK)) rfl jb hgl hT12);clear hT12;refine bodyPost_ret (v:=.agg #[.int .i64 18,.string (bf []),.int .i64 (bP E.l j.st v.st.k [x7]),.int .i64 (j.st.last:Int),.slice (some ⟨aV.heap.size,0,none⟩) 1 1]) (by simp[results,Tryz.results74,go_sem,r0,r1,r2,r3,r4]) rfl ?_;exact Eq.mp (congrArg (fun r=>bD E w v r _ _) (show(aI E.l j.st v.st.k 18 [] [x7],j.st)=_ by rw[aN.out,nK.out])) aO.out
 have B:=J.out;rw[nI.out,if_neg (by simp)]at B;replace J:=kH B
 clear B;refine(qV E F S _ h6 lU.out [97,115,115,101,114,116] nI.out).mono ?_;rintro e U ⟨rfl,v7,R,h7,ja⟩;have lT:=kH R;have fD:=ja.blk h6 gI;have P7:=P6.trans ja;clear R ja;go_wp2_with fail
 refine(wT E F v7 _ h7 lT.out HK.out).mono ?_;rintro e V ⟨rfl,v8,ed,h8,dY⟩;have gQ:=kH ed;have eF:=dY.blk h7 fD;have P8:=P7.trans dY;clear ed dY;by_cases hk0:k=0
 ·subst hk0
  obtain⟨x,hx⟩:∃x,oL E.bs E.l v.st=x:=⟨_,rfl⟩
  have HX:=kH hx;clear hx;go_wp2_with fail
  refine(Pk E F v8 _ h8 gQ.out HX.out).mono ?_;rintro e w9 ⟨rfl,v9,gX,T,fZ⟩;have kE:=kH gX;have eU:=fZ.blk h8 eF;have P9:=P8.trans fZ;clear gX fZ;by_cases zO:x=[40]
  ·subst zO
   obtain⟨kids,P,hy,D⟩:∃kids P,aP E.bs E.l f .args (aB E.l v.st)=some (kids,P)/\(t,q)=(aI E.l (aL E.bs E.l P [59]) v.st.k 19 (bK E.bs E.l v.st.k) kids,aL E.bs E.l P [59]):=by
    have:=J.out;rw[if_pos (by rw[HK.out,HX.out];simp)]at this;obtain⟨ks,p,h1,L⟩:=wR this;simp at L;exact⟨ks,p,h1,by rw[<- L.1,<- L.2]⟩
   have HY:=kH hy;have aN:=kH D;have e40:bf [40]=⟨#[40]⟩:=rfl;rw[e40];clear hy D e40;go_wp2_with fail
   refine(wP E F v9 _ T kE.out (by rw[HK.out];decide)).mono ?_;rintro e aV ⟨rfl,N,gy,C,b⟩;have jc:=kH gy;have dN:=b.blk T eU;have jV:=P9.trans b;clear gy b;have A:=HA.out.args N aV kids P C (by rw[jc.out];exact Hl F.empty HX.out) (by rw[jc.out];exact HY.out);have HC:=kH A;clear A;go_wp2_with fail
   refine HC.out.mono ?_;rintro e jB ⟨CV,n11,c11,rfl,hK11,j,lX,H,oq⟩;have nK:=kH lX;have jh:=oq.blk C dN;have rY:=jV.trans oq;have Ie:=kH (hK11.low (lo':=w.heap.size+1) dN.lt);clear lX oq hK11;go_wp2_with fail
   refine(kg E F j _ H nK.out [59]).mono ?_;rintro e nA ⟨rfl,v12,lC,K,iL⟩;have nT:=kH lC;have jb:=iL.blk H jh;have nH:=rY.trans iL;have pK:=kH (Ie.out.keeps (iL.dX H));clear lC iL;go_wp2_with fail
   refine(dV E F v12 _ K v.st.k 19 (bK E.bs E.l v.st.k) (w.heap.size+1) CV n11 c11 kids pK.out).mono ?_;rintro e vg ⟨rfl,ik,rQ⟩;have qj:=K.below ik;have lZ:=jb.below ik jb.lt;obtain⟨⟨r0,r1,r2,r3,r4⟩,g0,g1,g2,g3,g4⟩:=lZ.five;go_wp2_with fail
   have aO:=kH (bJ (v:=v) qj (nH.trans (PM.of_below ik)) rfl lZ hgl rQ);clear rQ;refine bodyPost_ret (v:=.agg #[.int .i64 19,.string (bf (bK E.bs E.l v.st.k)),.int .i64 (bP E.l v12.st v.st.k kids),.int .i64 (v12.st.last:Int),.slice CV n11 c11]) (by simp[results,Tryz.results74,go_sem,r0,r1,r2,r3,r4]) rfl ?_;exact Eq.mp (congrArg (fun r=>bD E w v r _ _) (show(aI E.l v12.st v.st.k 19 (bK E.bs E.l v.st.k) kids,v12.st)=_ by rw[aN.out,nT.out])) aO.out
  ·obtain⟨wd,hwd⟩:∃y,bf x=y:=⟨_,rfl⟩
   have hwf:(wd.data.toList==[40])=false:=by rw[<- hwd];simpa [bf] using zO
   have hwf2:(wd.toList==[40])=false:=by rw[ByteArray.toList_eq];exact hwf
   rw[hwd]
   obtain⟨Fu,Jb,x14,q14,hx,hy,D⟩:∃x P y q2,aP E.bs E.l f .place v.st=some ([x],P)/\aP E.bs E.l f (.expr 1) (aL E.bs E.l P [61])=some ([y],q2)/\(t,q)=(aI E.l (aL E.bs E.l q2 [59]) v.st.k 13 [] [x,y],aL E.bs E.l q2 [59]):=by
    have:=J.out;rw[if_neg (by rw[HK.out,HX.out];simp[zO]),if_pos HK.out]at this;obtain⟨x,p,h1,L⟩:=fA this;obtain⟨y,p2,h3,h4⟩:=fA L;simp at h4;exact⟨x,p,y,p2,h1,h3,by rw[<- h4.1,<- h4.2]⟩
   have zD:=kH hx;have HY:=kH hy;have aN:=kH D;clear hx hy D J hwd zO;go_wp2_with fail
   refine(wT E F v9 _ T kE.out HK.out).mono ?_;rintro e aV ⟨rfl,N,gy,C,b⟩;have jc:=kH gy;have dN:=b.blk T eU;have jV:=P9.trans b;clear gy b;have A:=HA.out.place N aV Fu Jb C (by rw[jc.out];exact zD.out);have HC:=kH A;clear A;go_wp2_with fail
   refine(HC.out).mono ?_;rintro e jB ⟨k11,t11,Nf,LA,CV,n11,c11,rfl,oC,j,lX,H,oq⟩;try dsimp only at lX oC
   have nK:=kH lX;have jh:=oq.blk C dN;have rY:=jV.trans oq;replace oC:=aC.weak (Q:=fun g=>w.heap.size+1<=g) (fun g _ Z=>aac dN.lt Z) _ _ oC
   clear lX oq;go_wp2_with fail
   generalize zR:jB.alloc (.cells #[.int .i64 k11,.string t11,.int .i64 Nf,.int .i64 LA,.slice CV n11 c11] 24)=nA
   have tK:Below jB.heap.size jB nA:=by rw[<- zR];exact ag _ _
   have yg:gZ nA _ jB.heap.size _ (.int .i64 k11) (.string t11) (.int .i64 Nf) (.int .i64 LA) (.slice CV n11 c11):=⟨by rw[<- zR];exact aj.new jB _ _,aC.keeps (bZ.of_below tK) _ _ oC⟩
   have KF:nA.heap.size=jB.heap.size+1:=by rw[<- zR];simp
   have K:=H.below tK;have jb:=jh.below tK jh.lt;have nH:=rY.trans (PM.of_below tK);obtain⟨v12,lC⟩:∃G,G=j:=⟨_,rfl⟩
   have nT:=nK;rw[<- lC]at K nH nT;try rw[<- KF]
   clear lC zR oC KF;refine(kg E F v12 _ K nT.out [61]).mono ?_;rintro e vg ⟨rfl,v13,zN,qj,Dm⟩;have Fg:=kH zN;have lZ:=Dm.blk K jb;have Hr:=nH.trans Dm;replace yg:=yg.pm Dm K
   clear zN Dm;have A:=HA.out.expr 1 v13 vg x14 q14 qj (by omega) (by omega) (by rw[Fg.out];exact HY.out);have vS:=kH A;clear A;go_wp2_with fail
   refine(vS.out).mono ?_;rintro e yu ⟨k14,t14,a14,z14,A14,n14,c14,rfl,BL,v14,NR,zA,XW⟩;try dsimp only at NR BL
   have YC:=kH NR;have wI:=XW.blk qj lZ;have TB:=Hr.trans XW;replace BL:=aC.weak (Q:=fun g=>w.heap.size+1<=g) (fun g _ Z=>aac lZ.lt Z) _ _ BL
   replace yg:=yg.pm XW qj
   clear NR XW;go_wp2_with fail
   generalize KS:yu.alloc (.cells #[.int .i64 k14,.string t14,.int .i64 a14,.int .i64 z14,.slice A14 n14 c14] 24)=IW
   have qh:Below yu.heap.size yu IW:=by rw[<- KS];exact ag _ _
   have X14:gZ IW _ yu.heap.size _ (.int .i64 k14) (.string t14) (.int .i64 a14) (.int .i64 z14) (.slice A14 n14 c14):=⟨by rw[<- KS];exact aj.new yu _ _,aC.keeps (bZ.of_below qh) _ _ BL⟩
   have hs15:IW.heap.size=yu.heap.size+1:=by rw[<- KS];simp
   have FK:=zA.below qh;have Yi:=wI.below qh wI.lt;have P15:=TB.trans (PM.of_below qh);replace yg:=yg.below qh
   obtain⟨v15,RO⟩:∃G,G=v14:=⟨_,rfl⟩
   have TH:=YC;rw[<- RO]at FK P15 TH;try rw[<- hs15]
   clear RO KS BL hs15;refine(kg E F v15 _ FK TH.out [59]).mono ?_;rintro e w16 ⟨rfl,v16,hv16,h16,Sg⟩;have HV16:=kH hv16;have EY:=Sg.blk FK Yi;have P16:=P15.trans Sg;replace yg:=yg.pm Sg FK
   replace X14:=X14.pm Sg FK
   clear hv16 Sg;obtain⟨⟨Xl,Xj,Xh,Xf,Xd⟩,Xb,WY,WW,WU,WS⟩:=yg.1.five;have WQ:=yg.1.lt;obtain⟨⟨qaX14,qbX14,qcX14,qdX14,qeX14⟩,qgX14,qhX14,qiX14,qjX14,qkX14⟩:=X14.1.five;have qlX14:=X14.1.lt;go_wp2_with fail
   clear Xl Xj Xh Xf Xd Xb WY WW WU WS WQ;clear qaX14 qbX14 qcX14 qdX14 qeX14 qgX14 qhX14 qiX14 qjX14 qkX14 qlX14;have N9:=kH (zk yg.2 X14.2 (by have:=EY.lt;omega));generalize hW17:w16.alloc (.cells #[.int .i64 k11,.string t11,.int .i64 Nf,.int .i64 LA,.slice CV n11 c11,.int .i64 k14,.string t14,.int .i64 a14,.int .i64 z14,.slice A14 n14 c14] 24)=YW at N9⊢
   have hb17:Below w16.heap.size w16 YW:=by rw[<- hW17];exact ag _ _
   have FJ:=h16.below hb17;have GX:=EY.below hb17 EY.lt;have Ni:=P16.trans (PM.of_below hb17);obtain⟨v17,GG⟩:∃G,G=v16:=⟨_,rfl⟩
   have Lm:=HV16;rw[<- GG]at FJ Ni Lm;clear GG hW17;refine(dV E F v17 _ FJ v.st.k 13 [] (w.heap.size+1) (some ⟨w16.heap.size,0,none⟩) 2 2 [Fu,x14] N9.out).mono ?_;rintro e w18 ⟨rfl,hb18,hT18⟩;have h18:=FJ.below hb18;have GV:=GX.below hb18 GX.lt;obtain⟨⟨r0,r1,r2,r3,r4⟩,g0,g1,g2,g3,g4⟩:=GV.five;go_wp2_with fail
   have aO:=kH (bJ (v:=v) h18 (Ni.trans (PM.of_below hb18)) rfl GV hgl hT18);clear hT18;refine bodyPost_ret (v:=.agg #[.int .i64 13,.string (bf []),.int .i64 (bP E.l v17.st v.st.k [Fu,x14]),.int .i64 (v17.st.last:Int),.slice (some ⟨w16.heap.size,0,none⟩) 2 2]) (by simp[results,Tryz.results74,go_sem,r0,r1,r2,r3,r4]) rfl ?_;exact Eq.mp (congrArg (fun r=>bD E w v r _ _) (show(aI E.l v17.st v.st.k 13 [] [Fu,x14],v17.st)=_ by rw[aN.out,Lm.out])) aO.out
 have X0:((k:Int)==0)=false:=by simp;omega
 have XZ:(k==0)=false:=by simp[hk0]
 have hsk:sV E.bs E.l f v.st=some (t,q):=by
  have:=J.out;rw[if_neg (by rw[HK.out];simp[hk0]),if_neg (by rw[HK.out];exact hk0)]at this;split at this
  ·cases this
  ·rename_i x p h
   simp at this;rw[h,this.1,this.2]
 have VN:=kH hsk;clear hsk hk0 J;go_wp2_with fail
 refine(wT E F v8 _ h8 gQ.out HK.out).mono ?_;rintro e w9 ⟨rfl,v9,gX,T,fZ⟩;have kE:=kH gX;have eU:=fZ.blk h8 eF;have P9:=P8.trans fZ;clear gX fZ;have A:=Uo E F v9 w9 T f (t,q) (by rw[kE.out];exact VN.out);have HC:=kH A;clear A;go_wp2_with fail
 refine(HC.out).mono ?_;rintro e aV ⟨k10,t10,BV,Bd,lJ,n10,c10,rfl,kK,N,gy,C,b⟩;try dsimp only at gy kK
 have jc:=kH gy;have dN:=b.blk T eU;have jV:=P9.trans b;replace kK:=aC.weak (Q:=fun g=>w.heap.size+1<=g) (fun g _ Z=>aac eU.lt Z) _ _ kK
 clear gy b;have aN:=trivial;obtain⟨⟨r0,r1,r2,r3,r4⟩,g0,g1,g2,g3,g4⟩:=dN.five;go_wp2_with fail
 have aO:=kH (bJ (v:=v) C jV rfl dN hgl kK);clear kK;rw[jc.out]at aO;refine bodyPost_ret (v:=.agg #[.int .i64 k10,.string t10,.int .i64 BV,.int .i64 Bd,.slice lJ n10 c10]) (by simp[results,Tryz.results74,go_sem,r0,r1,r2,r3,r4]) rfl ?_;try rw[aN.out]
 exact aO.out
end Go.Proofs.YtoepemlnlpamlaaGreat
