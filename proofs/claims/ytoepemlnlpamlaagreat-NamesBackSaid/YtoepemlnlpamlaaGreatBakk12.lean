/- The law NamesBack holds for every text and every number: it returns true, and its arguments read as before. No condition. Part 12: Stmt. -/
import Derived.Test.YtoepemlnlpamlaaGreatBakk11
set_option maxRecDepth 100000
set_option maxHeartbeats 4000000
namespace Go.Proofs.YtoepemlnlpamlaaGreat
open Go.RowKit
theorem RG(E:PE)(hE:E.Ok)(v:PV)(w:World)(hpw:PW w E v){p:PS}(hst:v.st=p):Calls Tryz.prog 130 #[.pointer (some ⟨E.gp,0,none⟩)] w (bq E w v (ib E.bs E.l p)):=by
 subst hst;exact vX E hE v w hpw
theorem YO(E:PE)(hE:E.Ok)(f:Nat)(IH:∀f',f'<=f->xN E f')(v:PV)(w:World)(t:aa)(q:PS)(hpw:PW w E v)(hr:aJ E.bs E.l (f+1) .stmt v.st=some ([t],q)):Calls Tryz.prog 74 #[.pointer (some ⟨E.gp,0,none⟩)] w (bq E w v (t,q)):=by
 rw[aJ]at hr;have HR:=kH hr;have HA:=kH (IH f (aaD _));clear hr IH;have hgl:=hpw.blk.lt;have hk2:w.cell? ⟨E.gp,2,none⟩=some (.int .i64 (v.st.k:Int)):=hpw.blk.cell 2;obtain⟨k,hk⟩:∃x,bG E.l v.st=x:=⟨_,rfl⟩
 have HK:=kH hk;obtain⟨b1,hb1⟩:∃x,bB E.bs E.l v.st [118,97,114]=x:=⟨_,rfl⟩
 have HB1:=kH hb1;obtain⟨b2,hb2⟩:∃x,bB E.bs E.l v.st [105,102]=x:=⟨_,rfl⟩
 have HB2:=kH hb2;obtain⟨b3,hb3⟩:∃x,bB E.bs E.l v.st [119,104,105,108,101]=x:=⟨_,rfl⟩
 have HB3:=kH hb3;obtain⟨b4,hb4⟩:∃x,bB E.bs E.l v.st [102,111,114]=x:=⟨_,rfl⟩
 have p9:=kH hb4;obtain⟨b5,hb5⟩:∃x,bB E.bs E.l v.st [114,101,116,117,114,110]=x:=⟨_,rfl⟩
 have iQ:=kH hb5;obtain⟨b6,hb6⟩:∃x,bB E.bs E.l v.st [97,115,115,101,114,116]=x:=⟨_,rfl⟩
 have p8:=kH hb6;clear hk hb1 hb2 hb3 hb4 hb5 hb6;go_enter Tryz.func74,Tryz.ntmps74
 go_wp2_with fail
 generalize hW1:w.alloc (.cells #[.int .i64 0,.string ⟨#[]⟩,.int .i64 0,.int .i64 0,.slice none 0 0] 24)=W1
 have hb1:Below w.heap.size w W1:=by rw[<- hW1];exact af _ _
 have eD:ai W1 w.heap.size 24 #[.int .i64 0,.string ⟨#[]⟩,.int .i64 0,.int .i64 0,.slice none 0 0]:=by rw[<- hW1];exact ai.new w _ _
 have hs1:W1.heap.size=w.heap.size+1:=by rw[<- hW1];simp
 have hm1:=PM.of_below (E:=E) (v:=v) hb1;have h1:=hpw.below hb1;have P1:=hm1;have nV:=kH hs1;have xq:=kH hm1;clear hW1 hs1 hm1 hb1;clear hk2;have Q5:Hid (v.st=v.st):=kH rfl;cases b1
 case true=>
  obtain⟨x7,q7,hx,hrq⟩:∃x q1,aJ E.bs E.l f (.expr 1) (aG E.bs E.l (ib E.bs E.l (cK E.l (ay E.l v.st))).2 [61])=some ([x],q1)/\(t,q)=(aH E.l (aG E.bs E.l q1 [59]) v.st.k 12 (cB E.bs E.l (ay E.l v.st)) [(ib E.bs E.l (cK E.l (ay E.l v.st))).1,x],aG E.bs E.l q1 [59]):=by
   have:=HR.out;rw[HB1.out,if_pos rfl]at this;obtain⟨x,p,h1,h2⟩:=ek this;simp at h2;exact⟨x,p,h1,by rw[<- h2.1,<- h2.2]⟩
  have HX:=kH hx;have aM:=kH hrq;clear hx hrq HR;refine(oM E hE v _ h1 Q5.out [118,97,114] HB1.out).mono ?_;rintro e w2 ⟨rfl,v2,hv2,h2,hm2⟩;have gD:=kH hv2;have hR2:=hm2.blk h1 eD;have P2:=P1.trans hm2;clear hv2 hm2;go_wp2_with fail
  refine(SB E hE v2 _ h2 gD.out).mono ?_;rintro e w3 ⟨rfl,v3,hv3,h3,dR⟩;have fw:=kH hv3;have df:=dR.blk h2 hR2;have P3:=P2.trans dR;clear hv3 dR;go_wp2_with fail
  refine(RG E hE v3 _ h3 fw.out).mono ?_;rintro e w4 ⟨k4,t4,a4,z4,A4,n4,c4,rfl,jC,v4,hv4,h4,gW⟩;try dsimp only at hv4 jC
  have iU:=kH hv4;have dS:=gW.blk h3 df;have P4:=P3.trans gW;replace jC:=aB.weak (Q:=fun g=>w.heap.size+1<=g) (fun g _ hg=>aaE df.lt hg) _ _ jC
  clear hv4 gW;go_wp2_with fail
  generalize oz:w4.alloc (.cells #[.int .i64 k4,.string t4,.int .i64 a4,.int .i64 z4,.slice A4 n4 c4] 24)=w5
  have hb5:Below w4.heap.size w4 w5:=by rw[<- oz];exact af _ _
  have X4:gG w5 _ w4.heap.size _ (.int .i64 k4) (.string t4) (.int .i64 a4) (.int .i64 z4) (.slice A4 n4 c4):=⟨by rw[<- oz];exact ai.new w4 _ _,aB.keeps (bO.of_below hb5) _ _ jC⟩
  have hs5:w5.heap.size=w4.heap.size+1:=by rw[<- oz];simp
  have h5:=h4.below hb5;have eT:=dS.below hb5 dS.lt;have P5:=P4.trans (PM.of_below hb5);obtain⟨v5,hv5⟩:∃vv,vv=v4:=⟨_,rfl⟩
  have HV5:=iU;rw[<- hv5]at h5 P5 HV5;try rw[<- hs5]
  clear hv5 oz jC hs5;refine(jV E hE v5 _ h5 HV5.out [61]).mono ?_;rintro e w6 ⟨rfl,v6,hv6,h6,gu⟩;have kZ:=kH hv6;have fK:=gu.blk h5 eT;have P6:=P5.trans gu;replace X4:=X4.pm gu h5
  clear hv6 gu;have hcall:=HA.out.expr 1 v6 w6 x7 q7 h6 (by omega) (by omega) (by rw[kZ.out];exact HX.out);have HC:=kH hcall;clear hcall;go_wp2_with fail
  refine(HC.out).mono ?_;rintro e w7 ⟨k7,t7,a7,z7,A7,n7,c7,rfl,jS,v7,hv7,h7,iM⟩;try dsimp only at hv7 jS
  have kY:=kH hv7;have ed:=iM.blk h6 fK;have P7:=P6.trans iM;replace jS:=aB.weak (Q:=fun g=>w.heap.size+1<=g) (fun g _ hg=>aaE fK.lt hg) _ _ jS
  replace X4:=X4.pm iM h6
  clear hv7 iM;go_wp2_with fail
  generalize mY:w7.alloc (.cells #[.int .i64 k7,.string t7,.int .i64 a7,.int .i64 z7,.slice A7 n7 c7] 24)=w8
  have dK:Below w7.heap.size w7 w8:=by rw[<- mY];exact af _ _
  have X7:gG w8 _ w7.heap.size _ (.int .i64 k7) (.string t7) (.int .i64 a7) (.int .i64 z7) (.slice A7 n7 c7):=⟨by rw[<- mY];exact ai.new w7 _ _,aB.keeps (bO.of_below dK) _ _ jS⟩
  have iZ:w8.heap.size=w7.heap.size+1:=by rw[<- mY];simp
  have h8:=h7.below dK;have dW:=ed.below dK ed.lt;have P8:=P7.trans (PM.of_below dK);replace X4:=X4.below dK
  obtain⟨v8,dZ⟩:∃vv,vv=v7:=⟨_,rfl⟩
  have fV:=kY;rw[<- dZ]at h8 P8 fV;try rw[<- iZ]
  clear dZ mY jS iZ;refine(jV E hE v8 _ h8 fV.out [59]).mono ?_;rintro e w9 ⟨rfl,v9,iy,h9,fD⟩;have j4:=kH iy;have eQ:=fD.blk h8 dW;have P9:=P8.trans fD;replace X4:=X4.pm fD h8
  replace X7:=X7.pm fD h8
  clear iy fD;obtain⟨⟨qaX4,qbX4,qcX4,qdX4,qeX4⟩,qgX4,qhX4,qiX4,qjX4,qkX4⟩:=X4.1.five;have qlX4:=X4.1.lt;obtain⟨⟨UJ,UH,UF,UD,UB⟩,Uy,Uw,Uu,Us,Uq⟩:=X7.1.five;have Un:=X7.1.lt;go_wp2_with fail
  clear qaX4 qbX4 qcX4 qdX4 qeX4 qgX4 qhX4 qiX4 qjX4 qkX4 qlX4;clear UJ UH UF UD UB Uy Uw Uu Us Uq Un;have ru:=kH (yg X4.2 X7.2 (by have:=eQ.lt;omega));generalize E9:w9.alloc (.cells #[.int .i64 k4,.string t4,.int .i64 a4,.int .i64 z4,.slice A4 n4 c4,.int .i64 k7,.string t7,.int .i64 a7,.int .i64 z7,.slice A7 n7 c7] 24)=bf at ru⊢
  have ji:Below w9.heap.size w9 bf:=by rw[<- E9];exact af _ _
  have h10:=h9.below ji;have dG:=eQ.below ji eQ.lt;have jH:=P9.trans (PM.of_below ji);obtain⟨v10,fF⟩:∃vv,vv=v9:=⟨_,rfl⟩
  have iO:=j4;rw[<- fF]at h10 jH iO;clear fF E9;refine(dN E hE v10 _ h10 v.st.k 12 (cB E.bs E.l (ay E.l v.st)) (w.heap.size+1) (some ⟨w9.heap.size,0,none⟩) 2 2 [(ib E.bs E.l (cK E.l (ay E.l v.st))).1,x7] ru.out).mono ?_;rintro e jm ⟨rfl,jh,nG⟩;have h11:=h10.below jh;have iW:=dG.below jh dG.lt;obtain⟨⟨r0,r1,r2,r3,r4⟩,g0,g1,g2,g3,g4⟩:=iW.five;go_wp2_with fail
  have aV:=kH (bF (v:=v) h11 (jH.trans (PM.of_below jh)) rfl iW hgl nG);clear nG;refine bodyPost_ret (v:=.agg #[.int .i64 12,.string (aU (cB E.bs E.l (ay E.l v.st))),.int .i64 (bN E.l v10.st v.st.k [(ib E.bs E.l (cK E.l (ay E.l v.st))).1,x7]),.int .i64 (v10.st.last:Int),.slice (some ⟨w9.heap.size,0,none⟩) 2 2]) (by simp[results,Tryz.results74,go_sem,r0,r1,r2,r3,r4]) rfl ?_;exact Eq.mp (congrArg (fun r=>bq E w v r _ _) (show(aH E.l v10.st v.st.k 12 (cB E.bs E.l (ay E.l v.st)) [(ib E.bs E.l (cK E.l (ay E.l v.st))).1,x7],v10.st)=_ by rw[aM.out,iO.out])) aV.out
 have hR2:=HR.out;rw[HB1.out,if_neg (by simp)]at hR2;replace HR:=kH hR2
 clear hR2;refine(qD E hE v _ h1 Q5.out [118,97,114] HB1.out).mono ?_;rintro e w2 ⟨rfl,v2,hv2,h2,hm2⟩;have gD:=kH hv2;have hR2:=hm2.blk h1 eD;have P2:=P1.trans hm2;clear hv2 hm2;go_wp2_with fail
 refine(AB E hE v2 _ h2 gD.out [105,102] HB2.out).mono ?_;rintro e w3 ⟨rfl,v3,hv3,h3,dR⟩;have fw:=kH hv3;have df:=dR.blk h2 hR2;have P3:=P2.trans dR;clear hv3 dR;cases b2
 case true=>
  have hR2:=HR.out;rw[HB2.out,if_pos rfl]at hR2;have hcall:=HA.out.branch v3 w3 t q h3 (by rw[fw.out];exact F4 HB2.out) (by rw[fw.out];exact hR2);have HC:=kH hcall;clear hcall hR2;go_wp2_with fail
  refine(HC.out).mono ?_;rintro e w4 ⟨k4,t4,a4,z4,A4,n4,c4,rfl,jC,v4,hv4,h4,gW⟩;try dsimp only at hv4 jC
  have iU:=kH hv4;have dS:=gW.blk h3 df;have P4:=P3.trans gW;replace jC:=aB.weak (Q:=fun g=>w.heap.size+1<=g) (fun g _ hg=>aaE df.lt hg) _ _ jC
  clear hv4 gW;have aM:=trivial;obtain⟨⟨r0,r1,r2,r3,r4⟩,g0,g1,g2,g3,g4⟩:=dS.five;go_wp2_with fail
  have aV:=kH (bF (v:=v) h4 P4 rfl dS hgl jC);clear jC;rw[iU.out]at aV;refine bodyPost_ret (v:=.agg #[.int .i64 k4,.string t4,.int .i64 a4,.int .i64 z4,.slice A4 n4 c4]) (by simp[results,Tryz.results74,go_sem,r0,r1,r2,r3,r4]) rfl ?_;try rw[aM.out]
  exact aV.out
 have hR2:=HR.out;rw[HB2.out,if_neg (by simp)]at hR2;replace HR:=kH hR2
 clear hR2;go_wp2_with fail
 cases b3
 case true=>
  obtain⟨x4,q4,x6,q6,hx,hy,hrq⟩:∃x q1 y q2,aJ E.bs E.l f (.expr 1) (ay E.l v.st)=some ([x],q1)/\aJ E.bs E.l f .block q1=some ([y],q2)/\(t,q)=(aH E.l q2 v.st.k 15 [] [x,y],q2):=by
   have:=HR.out;rw[HB3.out,if_pos rfl]at this;obtain⟨x,p,h1,h2⟩:=ek this;obtain⟨y,p2,h3,h4⟩:=ek h2;simp at h4;exact⟨x,p,y,p2,h1,h3,by rw[<- h4.1,<- h4.2]⟩
  have HX:=kH hx;have HY:=kH hy;have aM:=kH hrq;clear hx hy hrq HR;refine(oM E hE v3 _ h3 fw.out [119,104,105,108,101] HB3.out).mono ?_;rintro e w4 ⟨rfl,v4,hv4,h4,gW⟩;have iU:=kH hv4;have dS:=gW.blk h3 df;have P4:=P3.trans gW;clear hv4 gW;have hcall:=HA.out.expr 1 v4 w4 x4 q4 h4 (by omega) (by omega) (by rw[iU.out];exact HX.out);have HC:=kH hcall;clear hcall;go_wp2_with fail
  refine(HC.out).mono ?_;rintro e w5 ⟨k5,t5,a5,z5,A5,n5,c5,rfl,gT,v5,hv5,h5,gV⟩;try dsimp only at hv5 gT
  have HV5:=kH hv5;have eT:=gV.blk h4 dS;have P5:=P4.trans gV;replace gT:=aB.weak (Q:=fun g=>w.heap.size+1<=g) (fun g _ hg=>aaE dS.lt hg) _ _ gT
  clear hv5 gV;go_wp2_with fail
  generalize tF:w5.alloc (.cells #[.int .i64 k5,.string t5,.int .i64 a5,.int .i64 z5,.slice A5 n5 c5] 24)=w6
  have hb6:Below w5.heap.size w5 w6:=by rw[<- tF];exact af _ _
  have X5:gG w6 _ w5.heap.size _ (.int .i64 k5) (.string t5) (.int .i64 a5) (.int .i64 z5) (.slice A5 n5 c5):=⟨by rw[<- tF];exact ai.new w5 _ _,aB.keeps (bO.of_below hb6) _ _ gT⟩
  have hs6:w6.heap.size=w5.heap.size+1:=by rw[<- tF];simp
  have h6:=h5.below hb6;have fK:=eT.below hb6 eT.lt;have P6:=P5.trans (PM.of_below hb6);obtain⟨v6,hv6⟩:∃vv,vv=v5:=⟨_,rfl⟩
  have kZ:=HV5;rw[<- hv6]at h6 P6 kZ;try rw[<- hs6]
  clear hv6 tF gT hs6;have hcall:=HA.out.block v6 w6 x6 q6 h6 (by rw[kZ.out];exact HY.out);have wW:=kH hcall;clear hcall;refine(wW.out).mono ?_;rintro e w7 ⟨k7,t7,a7,z7,A7,n7,c7,rfl,jS,v7,hv7,h7,iM⟩;try dsimp only at hv7 jS
  have kY:=kH hv7;have ed:=iM.blk h6 fK;have P7:=P6.trans iM;replace jS:=aB.weak (Q:=fun g=>w.heap.size+1<=g) (fun g _ hg=>aaE fK.lt hg) _ _ jS
  replace X5:=X5.pm iM h6
  clear hv7 iM;obtain⟨⟨IB,Iz,Iw,Ir,Ip⟩,Im,Ik,Ii,Ig,Ic⟩:=X5.1.five;have Ia:=X5.1.lt;go_wp2_with fail
  clear IB Iz Iw Ir Ip Im Ik Ii Ig Ic Ia;generalize mY:w7.alloc (.cells #[.int .i64 k7,.string t7,.int .i64 a7,.int .i64 z7,.slice A7 n7 c7] 24)=w8
  have dK:Below w7.heap.size w7 w8:=by rw[<- mY];exact af _ _
  have X7:gG w8 _ w7.heap.size _ (.int .i64 k7) (.string t7) (.int .i64 a7) (.int .i64 z7) (.slice A7 n7 c7):=⟨by rw[<- mY];exact ai.new w7 _ _,aB.keeps (bO.of_below dK) _ _ jS⟩
  have iZ:w8.heap.size=w7.heap.size+1:=by rw[<- mY];simp
  have h8:=h7.below dK;have dW:=ed.below dK ed.lt;have P8:=P7.trans (PM.of_below dK);replace X5:=X5.below dK
  obtain⟨v8,dZ⟩:∃vv,vv=v7:=⟨_,rfl⟩
  have fV:=kY;rw[<- dZ]at h8 P8 fV;try rw[<- iZ]
  clear dZ mY jS iZ;have FE:=kH (yg X5.2 X7.2 (by have:=dW.lt;omega));generalize qz:w8.alloc (.cells #[.int .i64 k5,.string t5,.int .i64 a5,.int .i64 z5,.slice A5 n5 c5,.int .i64 k7,.string t7,.int .i64 a7,.int .i64 z7,.slice A7 n7 c7] 24)=w9 at FE⊢
  have dx:Below w8.heap.size w8 w9:=by rw[<- qz];exact af _ _
  have h9:=h8.below dx;have eQ:=dW.below dx dW.lt;have P9:=P8.trans (PM.of_below dx);obtain⟨v9,iy⟩:∃vv,vv=v8:=⟨_,rfl⟩
  have j4:=fV;rw[<- iy]at h9 P9 j4;clear iy qz;refine(dN E hE v9 _ h9 v.st.k 15 [] (w.heap.size+1) (some ⟨w8.heap.size,0,none⟩) 2 2 [x4,x6] FE.out).mono ?_;rintro e bf ⟨rfl,ji,mg⟩;have h10:=h9.below ji;have dG:=eQ.below ji eQ.lt;obtain⟨⟨r0,r1,r2,r3,r4⟩,g0,g1,g2,g3,g4⟩:=dG.five;go_wp2_with fail
  have aV:=kH (bF (v:=v) h10 (P9.trans (PM.of_below ji)) rfl dG hgl mg);clear mg;refine bodyPost_ret (v:=.agg #[.int .i64 15,.string (aU []),.int .i64 (bN E.l v9.st v.st.k [x4,x6]),.int .i64 (v9.st.last:Int),.slice (some ⟨w8.heap.size,0,none⟩) 2 2]) (by simp[results,Tryz.results74,go_sem,r0,r1,r2,r3,r4]) rfl ?_;exact Eq.mp (congrArg (fun r=>bq E w v r _ _) (show(aH E.l v9.st v.st.k 15 [] [x4,x6],v9.st)=_ by rw[aM.out,j4.out])) aV.out
 have hR2:=HR.out;rw[HB3.out,if_neg (by simp)]at hR2;replace HR:=kH hR2
 clear hR2;refine(qD E hE v3 _ h3 fw.out [119,104,105,108,101] HB3.out).mono ?_;rintro e w4 ⟨rfl,v4,hv4,h4,gW⟩;have iU:=kH hv4;have dS:=gW.blk h3 df;have P4:=P3.trans gW;clear hv4 gW;go_wp2_with fail
 cases b4
 case true=>
  obtain⟨x8,q8,Du,Gx,x13,q13,hx,hy,hz,hrq⟩:∃x q1 y q2 z q3,aJ E.bs E.l f (.expr 1) (aG E.bs E.l (cK E.l (ay E.l v.st)) [61])=some ([x],q1)/\aJ E.bs E.l f (.expr 1) (aG E.bs E.l q1 [116,111])=some ([y],q2)/\aJ E.bs E.l f .block q2=some ([z],q3)/\(t,q)=(aH E.l q3 v.st.k 16 (cB E.bs E.l (ay E.l v.st)) [x,y,z],q3):=by
   have:=HR.out;rw[p9.out,if_pos rfl]at this;obtain⟨x,p,h1,h2⟩:=ek this;obtain⟨y,p2,h3,h4⟩:=ek h2;obtain⟨z,p3,h5,h6⟩:=ek h4;simp at h6;exact⟨x,p,y,p2,z,p3,h1,h3,h5,by rw[<- h6.1,<- h6.2]⟩
  have HX:=kH hx;have HY:=kH hy;have HZ:=kH hz;have aM:=kH hrq;clear hx hy hz hrq HR;refine(oM E hE v4 _ h4 iU.out [102,111,114] p9.out).mono ?_;rintro e w5 ⟨rfl,v5,hv5,h5,gV⟩;have HV5:=kH hv5;have eT:=gV.blk h4 dS;have P5:=P4.trans gV;clear hv5 gV;go_wp2_with fail
  refine(SB E hE v5 _ h5 HV5.out).mono ?_;rintro e w6 ⟨rfl,v6,hv6,h6,gu⟩;have kZ:=kH hv6;have fK:=gu.blk h5 eT;have P6:=P5.trans gu;clear hv6 gu;go_wp2_with fail
  refine(jV E hE v6 _ h6 kZ.out [61]).mono ?_;rintro e w7 ⟨rfl,v7,hv7,h7,iM⟩;have kY:=kH hv7;have ed:=iM.blk h6 fK;have P7:=P6.trans iM;clear hv7 iM;have hcall:=HA.out.expr 1 v7 w7 x8 q8 h7 (by omega) (by omega) (by rw[kY.out];exact HX.out);have HC:=kH hcall;clear hcall;go_wp2_with fail
  refine(HC.out).mono ?_;rintro e w8 ⟨k8,t8,a8,z8,A8,n8,c8,rfl,pW,v8,dZ,h8,dP⟩;try dsimp only at dZ pW
  have fV:=kH dZ;have dW:=dP.blk h7 ed;have P8:=P7.trans dP;replace pW:=aB.weak (Q:=fun g=>w.heap.size+1<=g) (fun g _ hg=>aaE ed.lt hg) _ _ pW
  clear dZ dP;go_wp2_with fail
  generalize qz:w8.alloc (.cells #[.int .i64 k8,.string t8,.int .i64 a8,.int .i64 z8,.slice A8 n8 c8] 24)=w9
  have dx:Below w8.heap.size w8 w9:=by rw[<- qz];exact af _ _
  have X8:gG w9 _ w8.heap.size _ (.int .i64 k8) (.string t8) (.int .i64 a8) (.int .i64 z8) (.slice A8 n8 c8):=⟨by rw[<- qz];exact ai.new w8 _ _,aB.keeps (bO.of_below dx) _ _ pW⟩
  have uy:w9.heap.size=w8.heap.size+1:=by rw[<- qz];simp
  have h9:=h8.below dx;have eQ:=dW.below dx dW.lt;have P9:=P8.trans (PM.of_below dx);obtain⟨v9,iy⟩:∃vv,vv=v8:=⟨_,rfl⟩
  have j4:=fV;rw[<- iy]at h9 P9 j4;try rw[<- uy]
  clear iy qz pW uy;refine(jV E hE v9 _ h9 j4.out [116,111]).mono ?_;rintro e bf ⟨rfl,v10,fF,h10,eB⟩;have iO:=kH fF;have dG:=eB.blk h9 eQ;have jH:=P9.trans eB;replace X8:=X8.pm eB h9
  clear fF eB;have hcall:=HA.out.expr 1 v10 bf Du Gx h10 (by omega) (by omega) (by rw[iO.out];exact HY.out);have wW:=kH hcall;clear hcall;go_wp2_with fail
  refine(wW.out).mono ?_;rintro e jm ⟨k11,t11,KW,Jz,Bf,n11,c11,rfl,nG,v11,lC,h11,nD⟩;try dsimp only at lC nG
  have mJ:=kH lC;have iW:=nD.blk h10 dG;have qZ:=jH.trans nD;replace nG:=aB.weak (Q:=fun g=>w.heap.size+1<=g) (fun g _ hg=>aaE dG.lt hg) _ _ nG
  replace X8:=X8.pm nD h10
  clear lC nD;go_wp2_with fail
  generalize yL:jm.alloc (.cells #[.int .i64 k11,.string t11,.int .i64 KW,.int .i64 Jz,.slice Bf n11 c11] 24)=mE
  have rU:Below jm.heap.size jm mE:=by rw[<- yL];exact af _ _
  have wT:gG mE _ jm.heap.size _ (.int .i64 k11) (.string t11) (.int .i64 KW) (.int .i64 Jz) (.slice Bf n11 c11):=⟨by rw[<- yL];exact ai.new jm _ _,aB.keeps (bO.of_below rU) _ _ nG⟩
  have wC:mE.heap.size=jm.heap.size+1:=by rw[<- yL];simp
  have h12:=h11.below rU;have iN:=iW.below rU iW.lt;have mG:=qZ.trans (PM.of_below rU);replace X8:=X8.below rU
  obtain⟨v12,kR⟩:∃vv,vv=v11:=⟨_,rfl⟩
  have mW:=mJ;rw[<- kR]at h12 mG mW;try rw[<- wC]
  clear kR yL nG wC;have hcall:=HA.out.block v12 mE x13 q13 h12 (by rw[mW.out];exact HZ.out);have Yz:=kH hcall;clear hcall;refine(Yz.out).mono ?_;rintro e uw ⟨k13,t13,a13,z13,A13,n13,c13,rfl,qU,v13,yH,pI,Bv⟩;try dsimp only at yH qU
  have Dp:=kH yH;have lG:=Bv.blk h12 iN;have Fw:=mG.trans Bv;replace qU:=aB.weak (Q:=fun g=>w.heap.size+1<=g) (fun g _ hg=>aaE iN.lt hg) _ _ qU
  replace X8:=X8.pm Bv h12
  replace wT:=wT.pm Bv h12
  clear yH Bv;obtain⟨⟨IA,Iy,Iu,Iq,Io⟩,Il,Ij,Ih,Ie,Ib⟩:=X8.1.five;have H7:=X8.1.lt;obtain⟨⟨UK,UI,UG,UE,UC⟩,Uz,Ux,Uv,Ut,Ur⟩:=wT.1.five;have Uo:=wT.1.lt;go_wp2_with fail
  clear IA Iy Iu Iq Io Il Ij Ih Ie Ib H7;clear UK UI UG UE UC Uz Ux Uv Ut Ur Uo;generalize VE:uw.alloc (.cells #[.int .i64 k13,.string t13,.int .i64 a13,.int .i64 z13,.slice A13 n13 c13] 24)=wY
  have lD:Below uw.heap.size uw wY:=by rw[<- VE];exact af _ _
  have X13:gG wY _ uw.heap.size _ (.int .i64 k13) (.string t13) (.int .i64 a13) (.int .i64 z13) (.slice A13 n13 c13):=⟨by rw[<- VE];exact ai.new uw _ _,aB.keeps (bO.of_below lD) _ _ qU⟩
  have PK:wY.heap.size=uw.heap.size+1:=by rw[<- VE];simp
  have yx:=pI.below lD;have vw:=lG.below lD lG.lt;have Q0:=Fw.trans (PM.of_below lD);replace X8:=X8.below lD
  replace wT:=wT.below lD
  obtain⟨v14,LZ⟩:∃vv,vv=v13:=⟨_,rfl⟩
  have VS:=Dp;rw[<- LZ]at yx Q0 VS;try rw[<- PK]
  clear LZ VE qU PK;have HK15:=kH (yf X8.2 wT.2 X13.2 (by have:=vw.lt;omega));generalize I8:wY.alloc (.cells #[.int .i64 k8,.string t8,.int .i64 a8,.int .i64 z8,.slice A8 n8 c8,.int .i64 k11,.string t11,.int .i64 KW,.int .i64 Jz,.slice Bf n11 c11,.int .i64 k13,.string t13,.int .i64 a13,.int .i64 z13,.slice A13 n13 c13] 24)=Gf at HK15⊢
  have vg:Below wY.heap.size wY Gf:=by rw[<- I8];exact af _ _
  have DV:=yx.below vg;have VF:=vw.below vg vw.lt;have Yg:=Q0.trans (PM.of_below vg);obtain⟨v15,Py⟩:∃vv,vv=v14:=⟨_,rfl⟩
  have Q4:=VS;rw[<- Py]at DV Yg Q4;clear Py I8;refine(dN E hE v15 _ DV v.st.k 16 (cB E.bs E.l (ay E.l v.st)) (w.heap.size+1) (some ⟨wY.heap.size,0,none⟩) 3 3 [x8,Du,x13] HK15.out).mono ?_;rintro e w16 ⟨rfl,ZM,hT16⟩;have h16:=DV.below ZM;have Df:=VF.below ZM VF.lt;obtain⟨⟨r0,r1,r2,r3,r4⟩,g0,g1,g2,g3,g4⟩:=Df.five;go_wp2_with fail
  have aV:=kH (bF (v:=v) h16 (Yg.trans (PM.of_below ZM)) rfl Df hgl hT16);clear hT16;refine bodyPost_ret (v:=.agg #[.int .i64 16,.string (aU (cB E.bs E.l (ay E.l v.st))),.int .i64 (bN E.l v15.st v.st.k [x8,Du,x13]),.int .i64 (v15.st.last:Int),.slice (some ⟨wY.heap.size,0,none⟩) 3 3]) (by simp[results,Tryz.results74,go_sem,r0,r1,r2,r3,r4]) rfl ?_;exact Eq.mp (congrArg (fun r=>bq E w v r _ _) (show(aH E.l v15.st v.st.k 16 (cB E.bs E.l (ay E.l v.st)) [x8,Du,x13],v15.st)=_ by rw[aM.out,Q4.out])) aV.out
 have hR2:=HR.out;rw[p9.out,if_neg (by simp)]at hR2;replace HR:=kH hR2
 clear hR2;refine(qD E hE v4 _ h4 iU.out [102,111,114] p9.out).mono ?_;rintro e w5 ⟨rfl,v5,hv5,h5,gV⟩;have HV5:=kH hv5;have eT:=gV.blk h4 dS;have P5:=P4.trans gV;clear hv5 gV;go_wp2_with fail
 cases b5
 case true=>
  have hR2:=HR.out;rw[iQ.out,if_pos rfl]at hR2;obtain⟨b7,dE⟩:∃x,CF E.bs E.l (ay E.l v.st)=x:=⟨_,rfl⟩
  have iG:=kH dE;obtain⟨b8,dK⟩:∃x,bB E.bs E.l (ay E.l v.st) [110,111,116]=x:=⟨_,rfl⟩
  have xw:=kH dK;obtain⟨b9,dx⟩:∃x,bB E.bs E.l (ay E.l v.st) [45]=x:=⟨_,rfl⟩
  have sw:=kH dx;replace HR:=kH hR2
  clear hR2 dE dK dx;refine(oM E hE v5 _ h5 HV5.out [114,101,116,117,114,110] iQ.out).mono ?_;rintro e w6 ⟨rfl,v6,hv6,h6,gu⟩;have kZ:=kH hv6;have fK:=gu.blk h5 eT;have P6:=P5.trans gu;clear hv6 gu;have hk2:w6.cell? ⟨E.gp,2,none⟩=some (.int .i64 (v6.st.k:Int)):=h6.blk.cell 2;go_wp2_with fail
  refine(ig E hE v6 _ h6 v6.st.k 0 [] (w.heap.size+1)).mono ?_;rintro e w7 ⟨rfl,dE,jS⟩;have h7:=h6.below dE;have ed:=fK.below dE fK.lt;have P7:=P6.trans (PM.of_below dE);clear hk2 dE;go_wp2_with fail
  generalize mY:w7.alloc (.cells #[.int .i64 0,.string (aU []),.int .i64 (bN E.l v6.st v6.st.k []),.int .i64 (v6.st.last:Int),.slice none 0 0] 24)=w8
  have dK:Below w7.heap.size w7 w8:=by rw[<- mY];exact af _ _
  have X8:gG w8 _ w7.heap.size (aH E.l v6.st v6.st.k 0 [] []) (.int .i64 0) (.string (aU [])) (.int .i64 (bN E.l v6.st v6.st.k [])) (.int .i64 (v6.st.last:Int)) (.slice none 0 0):=⟨by rw[<- mY];exact ai.new w7 _ _,aB.keeps (bO.of_below dK) _ _ jS⟩
  have h8:=h7.below dK;have dW:=ed.below dK ed.lt;have P8:=P7.trans (PM.of_below dK);have hlt7:=ed.lt;obtain⟨v8,dZ⟩:∃vv,vv=v6:=⟨_,rfl⟩
  have fV:=kZ;rw[<- dZ]at h8 P8 fV;clear dZ mY jS;refine(UR E hE v8 _ h8 fV.out iG.out).mono ?_;rintro e w9 ⟨rfl,v9,iy,h9,fD⟩;have j4:=kH iy;have eQ:=fD.blk h8 dW;have P9:=P8.trans fD;replace X8:=X8.pm fD h8
  clear iy fD;cases b7
  case true=>
   obtain⟨x7,q7,hx,hrq⟩:∃x q1,aJ E.bs E.l f (.expr 1) (ay E.l v.st)=some ([x],q1)/\(t,q)=(aH E.l (aG E.bs E.l q1 [59]) v.st.k 17 [] [x],aG E.bs E.l q1 [59]):=by
    have:=HR.out;rw[if_pos (by simp[iG.out])]at this;obtain⟨x,p,h1,h2⟩:=ek this;simp at h2;exact⟨x,p,h1,by rw[<- h2.1,<- h2.2]⟩
   have HX:=kH hx;have aM:=kH hrq;clear hx hrq HR;have hcall:=HA.out.expr 1 v9 w9 x7 q7 h9 (by omega) (by omega) (by rw[j4.out];exact HX.out);have HC:=kH hcall;have hgI:=X8.1.lt;clear hcall;go_wp2_with fail
   refine(HC.out).mono ?_;rintro e BI ⟨rA,t31,a31,z31,rH,n31,c31,rfl,mf,v31,hv31,h31,mI⟩;try dsimp only at hv31 mf
   have Dn:=kH hv31;have wM:=mI.blk h9 eQ;have K4:=P9.trans mI;replace mf:=aB.weak (Q:=fun g=>w.heap.size+1<=g/\g≠w7.heap.size) (fun g _ hg=>⟨aaE eQ.lt hg,by omega⟩) _ _ mf
   have oK:=mI.blk h9 X8.1;obtain⟨⟨q0,q1',q2,q3,q4⟩,Gw,Gv,Gu,Gt,Gs⟩:=oK.five;have CY:=oK.lt;clear hv31 mI X8;go_wp2_with fail
   obtain⟨h32,yT,wP,pF⟩:=vF h31 K4 oK (by omega) (.int .i64 rA) (.string t31) (.int .i64 a31) (.int .i64 z31) (.slice rH n31 c31);have vo:=wM.keep (pF w.heap.size _ (by omega) wM);have oC:gG _ _ _ _ (.int .i64 rA) (.string t31) (.int .i64 a31) (.int .i64 z31) (.slice rH n31 c31):=⟨wP,aB.keeps (w':=bZ BI w7.heap.size (.int .i64 rA) (.string t31) (.int .i64 a31) (.int .i64 z31) (.slice rH n31 c31)) (fun g cs hP hc=>pF g cs hP.2 hc) _ _ mf⟩
   obtain⟨v32,hv32⟩:∃vv,vv=v31:=⟨_,rfl⟩
   have wU:=Dn;rw[<- hv32]at h32 yT wU;clear hv32 wP pF mf oK q0 q1' q2 q3 q4 Gw Gv Gu Gt Gs CY;refine(jV E hE v32 _ h32 wU.out [59]).mono ?_;rintro e uK ⟨rfl,v33,wu,Cg,wF⟩;have Ag:=kH wu;have tJ:=wF.blk h32 vo;have Fv:=yT.trans wF;replace oC:=oC.pm wF h32
   clear wu wF;obtain⟨⟨JX,JW,JV,JU,JS⟩,JR,JQ,JP,JO,JN⟩:=oC.1.five;have JM:=oC.1.lt;go_wp2_with fail
   clear JX JW JV JU JS JR JQ JP JO JN JM;replace oC:=oC.weak (Q:=fun g=>w.heap.size+1<=g) (fun g _ hp=>hp.1)
   have FI:=kH (jQ oC.2 (by have:=tJ.lt;omega));generalize E8:uK.alloc (.cells #[.int .i64 rA,.string t31,.int .i64 a31,.int .i64 z31,.slice rH n31 c31] 24)=Oe at FI⊢
   have og:Below uK.heap.size uK Oe:=by rw[<- E8];exact af _ _
   have zW:=Cg.below og;have wL:=tJ.below og tJ.lt;have Ns:=Fv.trans (PM.of_below og);obtain⟨v34,hv34⟩:∃vv,vv=v33:=⟨_,rfl⟩
   have Fy:=Ag;rw[<- hv34]at zW Ns Fy;clear hv34 E8;refine(dN E hE v34 _ zW v.st.k 17 [] (w.heap.size+1) (some ⟨uK.heap.size,0,none⟩) 1 1 [x7] FI.out).mono ?_;rintro e w35 ⟨rfl,wG,Fa⟩;have uD:=zW.below wG;have Fb:=wL.below wG wL.lt;obtain⟨⟨r0,r1,r2,r3,r4⟩,g0,g1,g2,g3,g4⟩:=Fb.five;go_wp2_with fail
   have aV:=kH (bF (v:=v) uD (Ns.trans (PM.of_below wG)) rfl Fb hgl Fa);clear Fa;refine bodyPost_ret (v:=.agg #[.int .i64 17,.string (aU []),.int .i64 (bN E.l v34.st v.st.k [x7]),.int .i64 (v34.st.last:Int),.slice (some ⟨uK.heap.size,0,none⟩) 1 1]) (by simp[results,Tryz.results74,go_sem,r0,r1,r2,r3,r4]) rfl ?_;exact Eq.mp (congrArg (fun r=>bq E w v r _ _) (show(aH E.l v34.st v.st.k 17 [] [x7],v34.st)=_ by rw[aM.out,Fy.out])) aV.out
  go_wp2_with fail
  refine(AB E hE v9 _ h9 j4.out [110,111,116] xw.out).mono ?_;rintro e bf ⟨rfl,v10,fF,h10,eB⟩;have iO:=kH fF;have dG:=eB.blk h9 eQ;have jH:=P9.trans eB;replace X8:=X8.pm eB h9
  clear fF eB;cases b8
  case true=>
   obtain⟨x7,q7,hx,hrq⟩:∃x q1,aJ E.bs E.l f (.expr 1) (ay E.l v.st)=some ([x],q1)/\(t,q)=(aH E.l (aG E.bs E.l q1 [59]) v.st.k 17 [] [x],aG E.bs E.l q1 [59]):=by
    have:=HR.out;rw[if_pos (by simp[xw.out])]at this;obtain⟨x,p,h1,h2⟩:=ek this;simp at h2;exact⟨x,p,h1,by rw[<- h2.1,<- h2.2]⟩
   have HX:=kH hx;have aM:=kH hrq;clear hx hrq HR;have hcall:=HA.out.expr 1 v10 bf x7 q7 h10 (by omega) (by omega) (by rw[iO.out];exact HX.out);have HC:=kH hcall;have hgI:=X8.1.lt;clear hcall;go_wp2_with fail
   refine(HC.out).mono ?_;rintro e BI ⟨rA,t31,a31,z31,rH,n31,c31,rfl,mf,v31,hv31,h31,mI⟩;try dsimp only at hv31 mf
   have Dn:=kH hv31;have wM:=mI.blk h10 dG;have K4:=jH.trans mI;replace mf:=aB.weak (Q:=fun g=>w.heap.size+1<=g/\g≠w7.heap.size) (fun g _ hg=>⟨aaE dG.lt hg,by omega⟩) _ _ mf
   have oK:=mI.blk h10 X8.1;obtain⟨⟨q0,q1',q2,q3,q4⟩,Gw,Gv,Gu,Gt,Gs⟩:=oK.five;have CY:=oK.lt;clear hv31 mI X8;go_wp2_with fail
   obtain⟨h32,yT,wP,pF⟩:=vF h31 K4 oK (by omega) (.int .i64 rA) (.string t31) (.int .i64 a31) (.int .i64 z31) (.slice rH n31 c31);have vo:=wM.keep (pF w.heap.size _ (by omega) wM);have oC:gG _ _ _ _ (.int .i64 rA) (.string t31) (.int .i64 a31) (.int .i64 z31) (.slice rH n31 c31):=⟨wP,aB.keeps (w':=bZ BI w7.heap.size (.int .i64 rA) (.string t31) (.int .i64 a31) (.int .i64 z31) (.slice rH n31 c31)) (fun g cs hP hc=>pF g cs hP.2 hc) _ _ mf⟩
   obtain⟨v32,hv32⟩:∃vv,vv=v31:=⟨_,rfl⟩
   have wU:=Dn;rw[<- hv32]at h32 yT wU;clear hv32 wP pF mf oK q0 q1' q2 q3 q4 Gw Gv Gu Gt Gs CY;refine(jV E hE v32 _ h32 wU.out [59]).mono ?_;rintro e uK ⟨rfl,v33,wu,Cg,wF⟩;have Ag:=kH wu;have tJ:=wF.blk h32 vo;have Fv:=yT.trans wF;replace oC:=oC.pm wF h32
   clear wu wF;obtain⟨⟨JX,JW,JV,JU,JS⟩,JR,JQ,JP,JO,JN⟩:=oC.1.five;have JM:=oC.1.lt;go_wp2_with fail
   clear JX JW JV JU JS JR JQ JP JO JN JM;replace oC:=oC.weak (Q:=fun g=>w.heap.size+1<=g) (fun g _ hp=>hp.1)
   have FI:=kH (jQ oC.2 (by have:=tJ.lt;omega));generalize E8:uK.alloc (.cells #[.int .i64 rA,.string t31,.int .i64 a31,.int .i64 z31,.slice rH n31 c31] 24)=Oe at FI⊢
   have og:Below uK.heap.size uK Oe:=by rw[<- E8];exact af _ _
   have zW:=Cg.below og;have wL:=tJ.below og tJ.lt;have Ns:=Fv.trans (PM.of_below og);obtain⟨v34,hv34⟩:∃vv,vv=v33:=⟨_,rfl⟩
   have Fy:=Ag;rw[<- hv34]at zW Ns Fy;clear hv34 E8;refine(dN E hE v34 _ zW v.st.k 17 [] (w.heap.size+1) (some ⟨uK.heap.size,0,none⟩) 1 1 [x7] FI.out).mono ?_;rintro e w35 ⟨rfl,wG,Fa⟩;have uD:=zW.below wG;have Fb:=wL.below wG wL.lt;obtain⟨⟨r0,r1,r2,r3,r4⟩,g0,g1,g2,g3,g4⟩:=Fb.five;go_wp2_with fail
   have aV:=kH (bF (v:=v) uD (Ns.trans (PM.of_below wG)) rfl Fb hgl Fa);clear Fa;refine bodyPost_ret (v:=.agg #[.int .i64 17,.string (aU []),.int .i64 (bN E.l v34.st v.st.k [x7]),.int .i64 (v34.st.last:Int),.slice (some ⟨uK.heap.size,0,none⟩) 1 1]) (by simp[results,Tryz.results74,go_sem,r0,r1,r2,r3,r4]) rfl ?_;exact Eq.mp (congrArg (fun r=>bq E w v r _ _) (show(aH E.l v34.st v.st.k 17 [] [x7],v34.st)=_ by rw[aM.out,Fy.out])) aV.out
  go_wp2_with fail
  refine(AB E hE v10 _ h10 iO.out [45] sw.out).mono ?_;rintro e jm ⟨rfl,v11,lC,h11,nD⟩;have mJ:=kH lC;have iW:=nD.blk h10 dG;have qZ:=jH.trans nD;replace X8:=X8.pm nD h10
  clear lC nD;cases b9
  case true=>
   obtain⟨x7,q7,hx,hrq⟩:∃x q1,aJ E.bs E.l f (.expr 1) (ay E.l v.st)=some ([x],q1)/\(t,q)=(aH E.l (aG E.bs E.l q1 [59]) v.st.k 17 [] [x],aG E.bs E.l q1 [59]):=by
    have:=HR.out;rw[if_pos (by simp[sw.out])]at this;obtain⟨x,p,h1,h2⟩:=ek this;simp at h2;exact⟨x,p,h1,by rw[<- h2.1,<- h2.2]⟩
   have HX:=kH hx;have aM:=kH hrq;clear hx hrq HR;have hcall:=HA.out.expr 1 v11 jm x7 q7 h11 (by omega) (by omega) (by rw[mJ.out];exact HX.out);have HC:=kH hcall;have hgI:=X8.1.lt;clear hcall;go_wp2_with fail
   refine(HC.out).mono ?_;rintro e BI ⟨rA,t31,a31,z31,rH,n31,c31,rfl,mf,v31,hv31,h31,mI⟩;try dsimp only at hv31 mf
   have Dn:=kH hv31;have wM:=mI.blk h11 iW;have K4:=qZ.trans mI;replace mf:=aB.weak (Q:=fun g=>w.heap.size+1<=g/\g≠w7.heap.size) (fun g _ hg=>⟨aaE iW.lt hg,by omega⟩) _ _ mf
   have oK:=mI.blk h11 X8.1;obtain⟨⟨q0,q1',q2,q3,q4⟩,Gw,Gv,Gu,Gt,Gs⟩:=oK.five;have CY:=oK.lt;clear hv31 mI X8;go_wp2_with fail
   obtain⟨h32,yT,wP,pF⟩:=vF h31 K4 oK (by omega) (.int .i64 rA) (.string t31) (.int .i64 a31) (.int .i64 z31) (.slice rH n31 c31);have vo:=wM.keep (pF w.heap.size _ (by omega) wM);have oC:gG _ _ _ _ (.int .i64 rA) (.string t31) (.int .i64 a31) (.int .i64 z31) (.slice rH n31 c31):=⟨wP,aB.keeps (w':=bZ BI w7.heap.size (.int .i64 rA) (.string t31) (.int .i64 a31) (.int .i64 z31) (.slice rH n31 c31)) (fun g cs hP hc=>pF g cs hP.2 hc) _ _ mf⟩
   obtain⟨v32,hv32⟩:∃vv,vv=v31:=⟨_,rfl⟩
   have wU:=Dn;rw[<- hv32]at h32 yT wU;clear hv32 wP pF mf oK q0 q1' q2 q3 q4 Gw Gv Gu Gt Gs CY;refine(jV E hE v32 _ h32 wU.out [59]).mono ?_;rintro e uK ⟨rfl,v33,wu,Cg,wF⟩;have Ag:=kH wu;have tJ:=wF.blk h32 vo;have Fv:=yT.trans wF;replace oC:=oC.pm wF h32
   clear wu wF;obtain⟨⟨JX,JW,JV,JU,JS⟩,JR,JQ,JP,JO,JN⟩:=oC.1.five;have JM:=oC.1.lt;go_wp2_with fail
   clear JX JW JV JU JS JR JQ JP JO JN JM;replace oC:=oC.weak (Q:=fun g=>w.heap.size+1<=g) (fun g _ hp=>hp.1)
   have FI:=kH (jQ oC.2 (by have:=tJ.lt;omega));generalize E8:uK.alloc (.cells #[.int .i64 rA,.string t31,.int .i64 a31,.int .i64 z31,.slice rH n31 c31] 24)=Oe at FI⊢
   have og:Below uK.heap.size uK Oe:=by rw[<- E8];exact af _ _
   have zW:=Cg.below og;have wL:=tJ.below og tJ.lt;have Ns:=Fv.trans (PM.of_below og);obtain⟨v34,hv34⟩:∃vv,vv=v33:=⟨_,rfl⟩
   have Fy:=Ag;rw[<- hv34]at zW Ns Fy;clear hv34 E8;refine(dN E hE v34 _ zW v.st.k 17 [] (w.heap.size+1) (some ⟨uK.heap.size,0,none⟩) 1 1 [x7] FI.out).mono ?_;rintro e w35 ⟨rfl,wG,Fa⟩;have uD:=zW.below wG;have Fb:=wL.below wG wL.lt;obtain⟨⟨r0,r1,r2,r3,r4⟩,g0,g1,g2,g3,g4⟩:=Fb.five;go_wp2_with fail
   have aV:=kH (bF (v:=v) uD (Ns.trans (PM.of_below wG)) rfl Fb hgl Fa);clear Fa;refine bodyPost_ret (v:=.agg #[.int .i64 17,.string (aU []),.int .i64 (bN E.l v34.st v.st.k [x7]),.int .i64 (v34.st.last:Int),.slice (some ⟨uK.heap.size,0,none⟩) 1 1]) (by simp[results,Tryz.results74,go_sem,r0,r1,r2,r3,r4]) rfl ?_;exact Eq.mp (congrArg (fun r=>bq E w v r _ _) (show(aH E.l v34.st v.st.k 17 [] [x7],v34.st)=_ by rw[aM.out,Fy.out])) aV.out
  have aM:Hid ((t,q)=(aH E.l (aG E.bs E.l (ay E.l v.st) [59]) v.st.k 17 [] [aH E.l v6.st v6.st.k 0 [] []],aG E.bs E.l (ay E.l v.st) [59])):=kH (by
   have:=HR.out;rw[if_neg (by rw[iG.out,xw.out,sw.out];simp)]at this;simp at this
   rw[kZ.out,<- this.1,<- this.2])
  clear HR;go_wp2_with fail
  refine(jV E hE v11 _ h11 mJ.out [59]).mono ?_;rintro e mE ⟨rfl,v12,kR,h12,ik⟩;have mW:=kH kR;have iN:=ik.blk h11 iW;have mG:=qZ.trans ik;replace X8:=X8.pm ik h11
  clear kR ik;obtain⟨⟨IA,Iy,Iu,Iq,Io⟩,Il,Ij,Ih,Ie,Ib⟩:=X8.1.five;have H7:=X8.1.lt;go_wp2_with fail
  clear IA Iy Iu Iq Io Il Ij Ih Ie Ib H7;have Rh:=kH (jQ X8.2 (by have:=iN.lt;omega));generalize Qu:mE.alloc (.cells #[.int .i64 0,.string (aU []),.int .i64 (bN E.l v6.st v6.st.k []),.int .i64 (v6.st.last:Int),.slice none 0 0] 24)=uw at Rh⊢
  have iV:Below mE.heap.size mE uw:=by rw[<- Qu];exact af _ _
  have pI:=h12.below iV;have lG:=iN.below iV iN.lt;have Fw:=mG.trans (PM.of_below iV);obtain⟨v13,yH⟩:∃vv,vv=v12:=⟨_,rfl⟩
  have Dp:=mW;rw[<- yH]at pI Fw Dp;clear yH Qu;refine(dN E hE v13 _ pI v.st.k 17 [] (w.heap.size+1) (some ⟨mE.heap.size,0,none⟩) 1 1 [aH E.l v6.st v6.st.k 0 [] []] Rh.out).mono ?_;rintro e wY ⟨rfl,lD,zS⟩;have yx:=pI.below lD;have vw:=lG.below lD lG.lt;obtain⟨⟨r0,r1,r2,r3,r4⟩,g0,g1,g2,g3,g4⟩:=vw.five;go_wp2_with fail
  have aV:=kH (bF (v:=v) yx (Fw.trans (PM.of_below lD)) rfl vw hgl zS);clear zS;refine bodyPost_ret (v:=.agg #[.int .i64 17,.string (aU []),.int .i64 (bN E.l v13.st v.st.k [aH E.l v6.st v6.st.k 0 [] []]),.int .i64 (v13.st.last:Int),.slice (some ⟨mE.heap.size,0,none⟩) 1 1]) (by simp[results,Tryz.results74,go_sem,r0,r1,r2,r3,r4]) rfl ?_;exact Eq.mp (congrArg (fun r=>bq E w v r _ _) (show(aH E.l v13.st v.st.k 17 [] [aH E.l v6.st v6.st.k 0 [] []],v13.st)=_ by rw[aM.out,Dp.out])) aV.out
 have hR2:=HR.out;rw[iQ.out,if_neg (by simp)]at hR2;replace HR:=kH hR2
 clear hR2;refine(qD E hE v5 _ h5 HV5.out [114,101,116,117,114,110] iQ.out).mono ?_;rintro e w6 ⟨rfl,v6,hv6,h6,gu⟩;have kZ:=kH hv6;have fK:=gu.blk h5 eT;have P6:=P5.trans gu;clear hv6 gu;go_wp2_with fail
 cases b6
 case true=>
  obtain⟨x7,q7,hx,hrq⟩:∃x q1,aJ E.bs E.l f (.expr 1) (ay E.l v.st)=some ([x],q1)/\(t,q)=(aH E.l (aG E.bs E.l q1 [59]) v.st.k 18 [] [x],aG E.bs E.l q1 [59]):=by
   have:=HR.out;rw[p8.out,if_pos rfl]at this;obtain⟨x,p,h1,h2⟩:=ek this;simp at h2;exact⟨x,p,h1,by rw[<- h2.1,<- h2.2]⟩
  have HX:=kH hx;have aM:=kH hrq;clear hx hrq HR;refine(oM E hE v6 _ h6 kZ.out [97,115,115,101,114,116] p8.out).mono ?_;rintro e w7 ⟨rfl,v7,hv7,h7,iM⟩;have kY:=kH hv7;have ed:=iM.blk h6 fK;have P7:=P6.trans iM;clear hv7 iM;have hcall:=HA.out.expr 1 v7 w7 x7 q7 h7 (by omega) (by omega) (by rw[kY.out];exact HX.out);have HC:=kH hcall;clear hcall;go_wp2_with fail
  refine(HC.out).mono ?_;rintro e w8 ⟨k8,t8,a8,z8,A8,n8,c8,rfl,pW,v8,dZ,h8,dP⟩;try dsimp only at dZ pW
  have fV:=kH dZ;have dW:=dP.blk h7 ed;have P8:=P7.trans dP;replace pW:=aB.weak (Q:=fun g=>w.heap.size+1<=g) (fun g _ hg=>aaE ed.lt hg) _ _ pW
  clear dZ dP;go_wp2_with fail
  generalize qz:w8.alloc (.cells #[.int .i64 k8,.string t8,.int .i64 a8,.int .i64 z8,.slice A8 n8 c8] 24)=w9
  have dx:Below w8.heap.size w8 w9:=by rw[<- qz];exact af _ _
  have X8:gG w9 _ w8.heap.size _ (.int .i64 k8) (.string t8) (.int .i64 a8) (.int .i64 z8) (.slice A8 n8 c8):=⟨by rw[<- qz];exact ai.new w8 _ _,aB.keeps (bO.of_below dx) _ _ pW⟩
  have uy:w9.heap.size=w8.heap.size+1:=by rw[<- qz];simp
  have h9:=h8.below dx;have eQ:=dW.below dx dW.lt;have P9:=P8.trans (PM.of_below dx);obtain⟨v9,iy⟩:∃vv,vv=v8:=⟨_,rfl⟩
  have j4:=fV;rw[<- iy]at h9 P9 j4;try rw[<- uy]
  clear iy qz pW uy;refine(jV E hE v9 _ h9 j4.out [59]).mono ?_;rintro e bf ⟨rfl,v10,fF,h10,eB⟩;have iO:=kH fF;have dG:=eB.blk h9 eQ;have jH:=P9.trans eB;replace X8:=X8.pm eB h9
  clear fF eB;obtain⟨⟨IA,Iy,Iu,Iq,Io⟩,Il,Ij,Ih,Ie,Ib⟩:=X8.1.five;have H7:=X8.1.lt;go_wp2_with fail
  clear IA Iy Iu Iq Io Il Ij Ih Ie Ib H7;have FJ:=kH (jQ X8.2 (by have:=dG.lt;omega));generalize tH:bf.alloc (.cells #[.int .i64 k8,.string t8,.int .i64 a8,.int .i64 z8,.slice A8 n8 c8] 24)=jm at FJ⊢
  have jh:Below bf.heap.size bf jm:=by rw[<- tH];exact af _ _
  have h11:=h10.below jh;have iW:=dG.below jh dG.lt;have qZ:=jH.trans (PM.of_below jh);obtain⟨v11,lC⟩:∃vv,vv=v10:=⟨_,rfl⟩
  have mJ:=iO;rw[<- lC]at h11 qZ mJ;clear lC tH;refine(dN E hE v11 _ h11 v.st.k 18 [] (w.heap.size+1) (some ⟨bf.heap.size,0,none⟩) 1 1 [x7] FJ.out).mono ?_;rintro e mE ⟨rfl,rU,hT12⟩;have h12:=h11.below rU;have iN:=iW.below rU iW.lt;obtain⟨⟨r0,r1,r2,r3,r4⟩,g0,g1,g2,g3,g4⟩:=iN.five;go_wp2_with fail
  have aV:=kH (bF (v:=v) h12 (qZ.trans (PM.of_below rU)) rfl iN hgl hT12);clear hT12;refine bodyPost_ret (v:=.agg #[.int .i64 18,.string (aU []),.int .i64 (bN E.l v11.st v.st.k [x7]),.int .i64 (v11.st.last:Int),.slice (some ⟨bf.heap.size,0,none⟩) 1 1]) (by simp[results,Tryz.results74,go_sem,r0,r1,r2,r3,r4]) rfl ?_;exact Eq.mp (congrArg (fun r=>bq E w v r _ _) (show(aH E.l v11.st v.st.k 18 [] [x7],v11.st)=_ by rw[aM.out,mJ.out])) aV.out
 have hR2:=HR.out;rw[p8.out,if_neg (by simp)]at hR2;replace HR:=kH hR2
 clear hR2;refine(qD E hE v6 _ h6 kZ.out [97,115,115,101,114,116] p8.out).mono ?_;rintro e w7 ⟨rfl,v7,hv7,h7,iM⟩;have kY:=kH hv7;have ed:=iM.blk h6 fK;have P7:=P6.trans iM;clear hv7 iM;go_wp2_with fail
 refine(vJ E hE v7 _ h7 kY.out HK.out).mono ?_;rintro e w8 ⟨rfl,v8,dZ,h8,dP⟩;have fV:=kH dZ;have dW:=dP.blk h7 ed;have P8:=P7.trans dP;clear dZ dP;by_cases hk0:k=0
 ·subst hk0
  obtain⟨x,hx⟩:∃x,nR E.bs E.l v.st=x:=⟨_,rfl⟩
  have HX:=kH hx;clear hx;go_wp2_with fail
  refine(Nn E hE v8 _ h8 fV.out HX.out).mono ?_;rintro e w9 ⟨rfl,v9,iy,h9,fD⟩;have j4:=kH iy;have eQ:=fD.blk h8 dW;have P9:=P8.trans fD;clear iy fD;by_cases u7:x=[40]
  ·subst u7
   obtain⟨kids,q1,hy,hrq⟩:∃kids q1,aJ E.bs E.l f .args (ay E.l v.st)=some (kids,q1)/\(t,q)=(aH E.l (aG E.bs E.l q1 [59]) v.st.k 19 (bE E.bs E.l v.st.k) kids,aG E.bs E.l q1 [59]):=by
    have:=HR.out;rw[if_pos (by rw[HK.out,HX.out];simp)]at this;obtain⟨ks,p,h1,h2⟩:=sU this;simp at h2;exact⟨ks,p,h1,by rw[<- h2.1,<- h2.2]⟩
   have HY:=kH hy;have aM:=kH hrq;have e40:aU [40]=⟨#[40]⟩:=rfl;rw[e40];clear hy hrq e40;go_wp2_with fail
   refine(vH E hE v9 _ h9 j4.out (by rw[HK.out];decide)).mono ?_;rintro e bf ⟨rfl,v10,fF,h10,eB⟩;have iO:=kH fF;have dG:=eB.blk h9 eQ;have jH:=P9.trans eB;clear fF eB;have hcall:=HA.out.args v10 bf kids q1 h10 (by rw[iO.out];exact Fs hE.empty HX.out) (by rw[iO.out];exact HY.out);have HC:=kH hcall;clear hcall;go_wp2_with fail
   refine HC.out.mono ?_;rintro e jm ⟨Bf,n11,c11,rfl,hK11,v11,lC,h11,nD⟩;have mJ:=kH lC;have iW:=nD.blk h10 dG;have qZ:=jH.trans nD;have FJ:=kH (hK11.low (lo':=w.heap.size+1) dG.lt);clear lC nD hK11;go_wp2_with fail
   refine(jV E hE v11 _ h11 mJ.out [59]).mono ?_;rintro e mE ⟨rfl,v12,kR,h12,ik⟩;have mW:=kH kR;have iN:=ik.blk h11 iW;have mG:=qZ.trans ik;have oN:=kH (FJ.out.keeps (ik.dL h11));clear kR ik;go_wp2_with fail
   refine(dN E hE v12 _ h12 v.st.k 19 (bE E.bs E.l v.st.k) (w.heap.size+1) Bf n11 c11 kids oN.out).mono ?_;rintro e uw ⟨rfl,iV,qU⟩;have pI:=h12.below iV;have lG:=iN.below iV iN.lt;obtain⟨⟨r0,r1,r2,r3,r4⟩,g0,g1,g2,g3,g4⟩:=lG.five;go_wp2_with fail
   have aV:=kH (bF (v:=v) pI (mG.trans (PM.of_below iV)) rfl lG hgl qU);clear qU;refine bodyPost_ret (v:=.agg #[.int .i64 19,.string (aU (bE E.bs E.l v.st.k)),.int .i64 (bN E.l v12.st v.st.k kids),.int .i64 (v12.st.last:Int),.slice Bf n11 c11]) (by simp[results,Tryz.results74,go_sem,r0,r1,r2,r3,r4]) rfl ?_;exact Eq.mp (congrArg (fun r=>bq E w v r _ _) (show(aH E.l v12.st v.st.k 19 (bE E.bs E.l v.st.k) kids,v12.st)=_ by rw[aM.out,mW.out])) aV.out
  ·obtain⟨wd,hwd⟩:∃y,aU x=y:=⟨_,rfl⟩
   have hwf:(wd.data.toList==[40])=false:=by rw[<- hwd];simpa [aU] using u7
   have hwf2:(wd.toList==[40])=false:=by rw[ByteArray.toList_eq];exact hwf
   rw[hwd]
   obtain⟨Du,Gx,x14,q14,hx,hy,hrq⟩:∃x q1 y q2,aJ E.bs E.l f .place v.st=some ([x],q1)/\aJ E.bs E.l f (.expr 1) (aG E.bs E.l q1 [61])=some ([y],q2)/\(t,q)=(aH E.l (aG E.bs E.l q2 [59]) v.st.k 13 [] [x,y],aG E.bs E.l q2 [59]):=by
    have:=HR.out;rw[if_neg (by rw[HK.out,HX.out];simp[u7]),if_pos HK.out]at this;obtain⟨x,p,h1,h2⟩:=ek this;obtain⟨y,p2,h3,h4⟩:=ek h2;simp at h4;exact⟨x,p,y,p2,h1,h3,by rw[<- h4.1,<- h4.2]⟩
   have yB:=kH hx;have HY:=kH hy;have aM:=kH hrq;clear hx hy hrq HR hwd u7;go_wp2_with fail
   refine(vJ E hE v9 _ h9 j4.out HK.out).mono ?_;rintro e bf ⟨rfl,v10,fF,h10,eB⟩;have iO:=kH fF;have dG:=eB.blk h9 eQ;have jH:=P9.trans eB;clear fF eB;have hcall:=HA.out.place v10 bf Du Gx h10 (by rw[iO.out];exact yB.out);have HC:=kH hcall;clear hcall;go_wp2_with fail
   refine(HC.out).mono ?_;rintro e jm ⟨k11,t11,KW,Jz,Bf,n11,c11,rfl,nG,v11,lC,h11,nD⟩;try dsimp only at lC nG
   have mJ:=kH lC;have iW:=nD.blk h10 dG;have qZ:=jH.trans nD;replace nG:=aB.weak (Q:=fun g=>w.heap.size+1<=g) (fun g _ hg=>aaE dG.lt hg) _ _ nG
   clear lC nD;go_wp2_with fail
   generalize yL:jm.alloc (.cells #[.int .i64 k11,.string t11,.int .i64 KW,.int .i64 Jz,.slice Bf n11 c11] 24)=mE
   have rU:Below jm.heap.size jm mE:=by rw[<- yL];exact af _ _
   have wT:gG mE _ jm.heap.size _ (.int .i64 k11) (.string t11) (.int .i64 KW) (.int .i64 Jz) (.slice Bf n11 c11):=⟨by rw[<- yL];exact ai.new jm _ _,aB.keeps (bO.of_below rU) _ _ nG⟩
   have wC:mE.heap.size=jm.heap.size+1:=by rw[<- yL];simp
   have h12:=h11.below rU;have iN:=iW.below rU iW.lt;have mG:=qZ.trans (PM.of_below rU);obtain⟨v12,kR⟩:∃vv,vv=v11:=⟨_,rfl⟩
   have mW:=mJ;rw[<- kR]at h12 mG mW;try rw[<- wC]
   clear kR yL nG wC;refine(jV E hE v12 _ h12 mW.out [61]).mono ?_;rintro e uw ⟨rfl,v13,yH,pI,Bv⟩;have Dp:=kH yH;have lG:=Bv.blk h12 iN;have Fw:=mG.trans Bv;replace wT:=wT.pm Bv h12
   clear yH Bv;have hcall:=HA.out.expr 1 v13 uw x14 q14 pI (by omega) (by omega) (by rw[Dp.out];exact HY.out);have wW:=kH hcall;clear hcall;go_wp2_with fail
   refine(wW.out).mono ?_;rintro e wY ⟨k14,t14,a14,z14,A14,n14,c14,rfl,zS,v14,LZ,yx,Vr⟩;try dsimp only at LZ zS
   have VS:=kH LZ;have vw:=Vr.blk pI lG;have Q0:=Fw.trans Vr;replace zS:=aB.weak (Q:=fun g=>w.heap.size+1<=g) (fun g _ hg=>aaE lG.lt hg) _ _ zS
   replace wT:=wT.pm Vr pI
   clear LZ Vr;go_wp2_with fail
   generalize I8:wY.alloc (.cells #[.int .i64 k14,.string t14,.int .i64 a14,.int .i64 z14,.slice A14 n14 c14] 24)=Gf
   have vg:Below wY.heap.size wY Gf:=by rw[<- I8];exact af _ _
   have Ya:gG Gf _ wY.heap.size _ (.int .i64 k14) (.string t14) (.int .i64 a14) (.int .i64 z14) (.slice A14 n14 c14):=⟨by rw[<- I8];exact ai.new wY _ _,aB.keeps (bO.of_below vg) _ _ zS⟩
   have hs15:Gf.heap.size=wY.heap.size+1:=by rw[<- I8];simp
   have DV:=yx.below vg;have VF:=vw.below vg vw.lt;have Yg:=Q0.trans (PM.of_below vg);replace wT:=wT.below vg
   obtain⟨v15,Py⟩:∃vv,vv=v14:=⟨_,rfl⟩
   have Q4:=VS;rw[<- Py]at DV Yg Q4;try rw[<- hs15]
   clear Py I8 zS hs15;refine(jV E hE v15 _ DV Q4.out [59]).mono ?_;rintro e w16 ⟨rfl,v16,hv16,h16,PZ⟩;have HV16:=kH hv16;have Df:=PZ.blk DV VF;have Yf:=Yg.trans PZ;replace wT:=wT.pm PZ DV
   replace Ya:=Ya.pm PZ DV
   clear hv16 PZ;obtain⟨⟨UK,UI,UG,UE,UC⟩,Uz,Ux,Uv,Ut,Ur⟩:=wT.1.five;have Uo:=wT.1.lt;obtain⟨⟨qaX14,qbX14,qcX14,qdX14,qeX14⟩,qgX14,qhX14,qiX14,qjX14,qkX14⟩:=Ya.1.five;have qlX14:=Ya.1.lt;go_wp2_with fail
   clear UK UI UG UE UC Uz Ux Uv Ut Ur Uo;clear qaX14 qbX14 qcX14 qdX14 qeX14 qgX14 qhX14 qiX14 qjX14 qkX14 qlX14;have Ml:=kH (yg wT.2 Ya.2 (by have:=Df.lt;omega));generalize hW17:w16.alloc (.cells #[.int .i64 k11,.string t11,.int .i64 KW,.int .i64 Jz,.slice Bf n11 c11,.int .i64 k14,.string t14,.int .i64 a14,.int .i64 z14,.slice A14 n14 c14] 24)=Wo at Ml⊢
   have ZL:Below w16.heap.size w16 Wo:=by rw[<- hW17];exact af _ _
   have DU:=h16.below ZL;have Ff:=Df.below ZL Df.lt;have K6:=Yf.trans (PM.of_below ZL);obtain⟨v17,EM⟩:∃vv,vv=v16:=⟨_,rfl⟩
   have Jo:=HV16;rw[<- EM]at DU K6 Jo;clear EM hW17;refine(dN E hE v17 _ DU v.st.k 13 [] (w.heap.size+1) (some ⟨w16.heap.size,0,none⟩) 2 2 [Du,x14] Ml.out).mono ?_;rintro e w18 ⟨rfl,ZK,hT18⟩;have h18:=DU.below ZK;have Fe:=Ff.below ZK Ff.lt;obtain⟨⟨r0,r1,r2,r3,r4⟩,g0,g1,g2,g3,g4⟩:=Fe.five;go_wp2_with fail
   have aV:=kH (bF (v:=v) h18 (K6.trans (PM.of_below ZK)) rfl Fe hgl hT18);clear hT18;refine bodyPost_ret (v:=.agg #[.int .i64 13,.string (aU []),.int .i64 (bN E.l v17.st v.st.k [Du,x14]),.int .i64 (v17.st.last:Int),.slice (some ⟨w16.heap.size,0,none⟩) 2 2]) (by simp[results,Tryz.results74,go_sem,r0,r1,r2,r3,r4]) rfl ?_;exact Eq.mp (congrArg (fun r=>bq E w v r _ _) (show(aH E.l v17.st v.st.k 13 [] [Du,x14],v17.st)=_ by rw[aM.out,Jo.out])) aV.out
 have Vv:((k:Int)==0)=false:=by simp;omega
 have Vu:(k==0)=false:=by simp[hk0]
 have hsk:mR E.bs E.l f v.st=some (t,q):=by
  have:=HR.out;rw[if_neg (by rw[HK.out];simp[hk0]),if_neg (by rw[HK.out];exact hk0)]at this;split at this
  ·cases this
  ·rename_i x p h
   simp at this;rw[h,this.1,this.2]
 have TA:=kH hsk;clear hsk hk0 HR;go_wp2_with fail
 refine(vJ E hE v8 _ h8 fV.out HK.out).mono ?_;rintro e w9 ⟨rfl,v9,iy,h9,fD⟩;have j4:=kH iy;have eQ:=fD.blk h8 dW;have P9:=P8.trans fD;clear iy fD;have hcall:=Ry E hE v9 w9 h9 f (t,q) (by rw[j4.out];exact TA.out);have HC:=kH hcall;clear hcall;go_wp2_with fail
 refine(HC.out).mono ?_;rintro e bf ⟨k10,t10,Ae,zy,oG,n10,c10,rfl,mg,v10,fF,h10,eB⟩;try dsimp only at fF mg
 have iO:=kH fF;have dG:=eB.blk h9 eQ;have jH:=P9.trans eB;replace mg:=aB.weak (Q:=fun g=>w.heap.size+1<=g) (fun g _ hg=>aaE eQ.lt hg) _ _ mg
 clear fF eB;have aM:=trivial;obtain⟨⟨r0,r1,r2,r3,r4⟩,g0,g1,g2,g3,g4⟩:=dG.five;go_wp2_with fail
 have aV:=kH (bF (v:=v) h10 jH rfl dG hgl mg);clear mg;rw[iO.out]at aV;refine bodyPost_ret (v:=.agg #[.int .i64 k10,.string t10,.int .i64 Ae,.int .i64 zy,.slice oG n10 c10]) (by simp[results,Tryz.results74,go_sem,r0,r1,r2,r3,r4]) rfl ?_;try rw[aM.out]
 exact aV.out
end Go.Proofs.YtoepemlnlpamlaaGreat
