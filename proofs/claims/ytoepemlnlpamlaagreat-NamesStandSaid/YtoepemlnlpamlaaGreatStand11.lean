/- The law NamesStand holds: for every text and every number the law returns true, and its arguments read as before. No condition. Part 11: Stmt. -/
import Derived.Test.YtoepemlnlpamlaaGreatStand10
set_option maxRecDepth 100000
set_option maxHeartbeats 4000000
namespace Go.Proofs.YtoepemlnlpamlaaGreat
open Go.RowKit
theorem Q7(E:PE)(hE:E.Ok)(v:PV)(w:World)(hpw:PW w E v){p:PS}(hst:v.st=p):Calls Tryz.prog 130 #[.pointer (some ⟨E.gp,0,none⟩)] w (bK E w v (jb E.bs E.l p)):=by
 subst hst;exact wF E hE v w hpw
theorem X9(E:PE)(hE:E.Ok)(f:Nat)(IH:∀f',f'<=f->xR E f')(v:PV)(w:World)(t:aa)(q:PS)(hpw:PW w E v)(hr:aO E.bs E.l (f+1) .stmt v.st=some ([t],q)):Calls Tryz.prog 74 #[.pointer (some ⟨E.gp,0,none⟩)] w (bK E w v (t,q)):=by
 rw[aO]at hr;have HR:=kH hr;have HA:=kH (IH f (aab _));clear hr IH;have hgl:=hpw.blk.lt;have hk2:w.cell? ⟨E.gp,2,none⟩=some (.int .i64 (v.st.k:Int)):=hpw.blk.cell 2;obtain⟨k,hk⟩:∃x,bP E.l v.st=x:=⟨_,rfl⟩
 have HK:=kH hk;obtain⟨b1,hb1⟩:∃x,bM E.bs E.l v.st [118,97,114]=x:=⟨_,rfl⟩
 have HB1:=kH hb1;obtain⟨b2,hb2⟩:∃x,bM E.bs E.l v.st [105,102]=x:=⟨_,rfl⟩
 have HB2:=kH hb2;obtain⟨b3,hb3⟩:∃x,bM E.bs E.l v.st [119,104,105,108,101]=x:=⟨_,rfl⟩
 have HB3:=kH hb3;obtain⟨b4,hb4⟩:∃x,bM E.bs E.l v.st [102,111,114]=x:=⟨_,rfl⟩
 have pK:=kH hb4;obtain⟨b5,hb5⟩:∃x,bM E.bs E.l v.st [114,101,116,117,114,110]=x:=⟨_,rfl⟩
 have fT:=kH hb5;obtain⟨b6,hb6⟩:∃x,bM E.bs E.l v.st [97,115,115,101,114,116]=x:=⟨_,rfl⟩
 have nZ:=kH hb6;clear hk hb1 hb2 hb3 hb4 hb5 hb6;go_enter Tryz.func74,Tryz.ntmps74
 go_wp2_with fail
 generalize hW1:w.alloc (.cells #[.int .i64 0,.string ⟨#[]⟩,.int .i64 0,.int .i64 0,.slice none 0 0] 24)=W1
 have hb1:Below w.heap.size w W1:=by rw[<- hW1];exact ae _ _
 have eP:ak W1 w.heap.size 24 #[.int .i64 0,.string ⟨#[]⟩,.int .i64 0,.int .i64 0,.slice none 0 0]:=by rw[<- hW1];exact ak.new w _ _
 have hs1:W1.heap.size=w.heap.size+1:=by rw[<- hW1];simp
 have hm1:=PM.of_below (E:=E) (v:=v) hb1;have h1:=hpw.below hb1;have P1:=hm1;have pJ:=kH hs1;have xB:=kH hm1;clear hW1 hs1 hm1 hb1;clear hk2;have QD:Hid (v.st=v.st):=kH rfl;cases b1
 case true=>
  obtain⟨x7,q7,hx,hrq⟩:∃x q1,aO E.bs E.l f (.expr 1) (aH E.bs E.l (jb E.bs E.l (dG E.l (aC E.l v.st))).2 [61])=some ([x],q1)/\(t,q)=(aI E.l (aH E.bs E.l q1 [59]) v.st.k 12 (dF E.bs E.l (aC E.l v.st)) [(jb E.bs E.l (dG E.l (aC E.l v.st))).1,x],aH E.bs E.l q1 [59]):=by
   have:=HR.out;rw[HB1.out,if_pos rfl]at this;obtain⟨x,p,h1,h2⟩:=fE this;simp at h2;exact⟨x,p,h1,by rw[<- h2.1,<- h2.2]⟩
  have HX:=kH hx;have aV:=kH hrq;clear hx hrq HR;refine(pg E hE v _ h1 QD.out [118,97,114] HB1.out).mono ?_;rintro e w2 ⟨rfl,v2,hv2,h2,hm2⟩;have iw:=kH hv2;have hR2:=hm2.blk h1 eP;have P2:=P1.trans hm2;clear hv2 hm2;go_wp2_with fail
  refine(RL E hE v2 _ h2 iw.out).mono ?_;rintro e w3 ⟨rfl,v3,hv3,h3,eH⟩;have fU:=kH hv3;have dD:=eH.blk h2 hR2;have P3:=P2.trans eH;clear hv3 eH;go_wp2_with fail
  refine(Q7 E hE v3 _ h3 fU.out).mono ?_;rintro e w4 ⟨k4,t4,a4,z4,A4,n4,c4,rfl,lD,v4,hv4,h4,iI⟩;try dsimp only at hv4 lD
  have iY:=kH hv4;have fB:=iI.blk h3 dD;have P4:=P3.trans iI;replace lD:=aF.weak (Q:=fun g=>w.heap.size+1<=g) (fun g _ hg=>aac dD.lt hg) _ _ lD
  clear hv4 iI;go_wp2_with fail
  generalize pI:w4.alloc (.cells #[.int .i64 k4,.string t4,.int .i64 a4,.int .i64 z4,.slice A4 n4 c4] 24)=w5
  have hb5:Below w4.heap.size w4 w5:=by rw[<- pI];exact ae _ _
  have X4:iA w5 _ w4.heap.size _ (.int .i64 k4) (.string t4) (.int .i64 a4) (.int .i64 z4) (.slice A4 n4 c4):=⟨by rw[<- pI];exact ak.new w4 _ _,aF.keeps (dB.of_below hb5) _ _ lD⟩
  have hs5:w5.heap.size=w4.heap.size+1:=by rw[<- pI];simp
  have h5:=h4.below hb5;have fK:=fB.below hb5 fB.lt;have P5:=P4.trans (PM.of_below hb5);obtain⟨v5,hv5⟩:∃vv,vv=v4:=⟨_,rfl⟩
  have HV5:=iY;rw[<- hv5]at h5 P5 HV5;try rw[<- hs5]
  clear hv5 pI lD hs5;refine(kI E hE v5 _ h5 HV5.out [61]).mono ?_;rintro e w6 ⟨rfl,v6,hv6,h6,dM⟩;have lU:=kH hv6;have fI:=dM.blk h5 fK;have P6:=P5.trans dM;replace X4:=X4.pm dM h5
  clear hv6 dM;have hcall:=HA.out.expr 1 v6 w6 x7 q7 h6 (by omega) (by omega) (by rw[lU.out];exact HX.out);have HC:=kH hcall;clear hcall;go_wp2_with fail
  refine(HC.out).mono ?_;rintro e w7 ⟨k7,t7,a7,z7,A7,n7,c7,rfl,lQ,v7,hv7,h7,jd⟩;try dsimp only at hv7 lQ
  have lT:=kH hv7;have fH:=jd.blk h6 fI;have P7:=P6.trans jd;replace lQ:=aF.weak (Q:=fun g=>w.heap.size+1<=g) (fun g _ hg=>aac fI.lt hg) _ _ lQ
  replace X4:=X4.pm jd h6
  clear hv7 jd;go_wp2_with fail
  generalize qd:w7.alloc (.cells #[.int .i64 k7,.string t7,.int .i64 a7,.int .i64 z7,.slice A7 n7 c7] 24)=w8
  have fJ:Below w7.heap.size w7 w8:=by rw[<- qd];exact ae _ _
  have X7:iA w8 _ w7.heap.size _ (.int .i64 k7) (.string t7) (.int .i64 a7) (.int .i64 z7) (.slice A7 n7 c7):=⟨by rw[<- qd];exact ak.new w7 _ _,aF.keeps (dB.of_below fJ) _ _ lQ⟩
  have jh:w8.heap.size=w7.heap.size+1:=by rw[<- qd];simp
  have h8:=h7.below fJ;have eB:=fH.below fJ fH.lt;have P8:=P7.trans (PM.of_below fJ);replace X4:=X4.below fJ
  obtain⟨v8,eX⟩:∃vv,vv=v7:=⟨_,rfl⟩
  have ic:=lT;rw[<- eX]at h8 P8 ic;try rw[<- jh]
  clear eX qd lQ jh;refine(kI E hE v8 _ h8 ic.out [59]).mono ?_;rintro e w9 ⟨rfl,v9,iU,h9,gH⟩;have kL:=kH iU;have fA:=gH.blk h8 eB;have P9:=P8.trans gH;replace X4:=X4.pm gH h8
  replace X7:=X7.pm gH h8
  clear iU gH;obtain⟨⟨qaX4,qbX4,qcX4,qdX4,qeX4⟩,qgX4,qhX4,qiX4,qjX4,qkX4⟩:=X4.1.five;have qlX4:=X4.1.lt;obtain⟨⟨Ua,TZ,TW,TU,TS⟩,TQ,TN,TL,TJ,TH⟩:=X7.1.five;have TF:=X7.1.lt;go_wp2_with fail
  clear qaX4 qbX4 qcX4 qdX4 qeX4 qgX4 qhX4 qiX4 qjX4 qkX4 qlX4;clear Ua TZ TW TU TS TQ TN TL TJ TH TF;have rF:=kH (yo X4.2 X7.2 (by have:=fA.lt;omega));generalize Ff:w9.alloc (.cells #[.int .i64 k4,.string t4,.int .i64 a4,.int .i64 z4,.slice A4 n4 c4,.int .i64 k7,.string t7,.int .i64 a7,.int .i64 z7,.slice A7 n7 c7] 24)=bJ at rF⊢
  have jW:Below w9.heap.size w9 bJ:=by rw[<- Ff];exact ae _ _
  have h10:=h9.below jW;have dV:=fA.below jW fA.lt;have jZ:=P9.trans (PM.of_below jW);obtain⟨v10,gL⟩:∃vv,vv=v9:=⟨_,rfl⟩
  have jf:=kL;rw[<- gL]at h10 jZ jf;clear gL Ff;refine(dY E hE v10 _ h10 v.st.k 12 (dF E.bs E.l (aC E.l v.st)) (w.heap.size+1) (some ⟨w9.heap.size,0,none⟩) 2 2 [(jb E.bs E.l (dG E.l (aC E.l v.st))).1,x7] rF.out).mono ?_;rintro e jF ⟨rfl,jC,nY⟩;have h11:=h10.below jC;have jq:=dV.below jC dV.lt;obtain⟨⟨r0,r1,r2,r3,r4⟩,g0,g1,g2,g3,g4⟩:=jq.five;go_wp2_with fail
  have bC:=kH (bO (v:=v) h11 (jZ.trans (PM.of_below jC)) rfl jq hgl nY);clear nY;refine bodyPost_ret (v:=.agg #[.int .i64 12,.string (bI (dF E.bs E.l (aC E.l v.st))),.int .i64 (bW E.l v10.st v.st.k [(jb E.bs E.l (dG E.l (aC E.l v.st))).1,x7]),.int .i64 (v10.st.last:Int),.slice (some ⟨w9.heap.size,0,none⟩) 2 2]) (by simp[results,Tryz.results74,go_sem,r0,r1,r2,r3,r4]) rfl ?_;exact Eq.mp (congrArg (fun r=>bK E w v r _ _) (show(aI E.l v10.st v.st.k 12 (dF E.bs E.l (aC E.l v.st)) [(jb E.bs E.l (dG E.l (aC E.l v.st))).1,x7],v10.st)=_ by rw[aV.out,jf.out])) bC.out
 have hR2:=HR.out;rw[HB1.out,if_neg (by simp)]at hR2;replace HR:=kH hR2
 clear hR2;refine(qJ E hE v _ h1 QD.out [118,97,114] HB1.out).mono ?_;rintro e w2 ⟨rfl,v2,hv2,h2,hm2⟩;have iw:=kH hv2;have hR2:=hm2.blk h1 eP;have P2:=P1.trans hm2;clear hv2 hm2;go_wp2_with fail
 refine(BA E hE v2 _ h2 iw.out [105,102] HB2.out).mono ?_;rintro e w3 ⟨rfl,v3,hv3,h3,eH⟩;have fU:=kH hv3;have dD:=eH.blk h2 hR2;have P3:=P2.trans eH;clear hv3 eH;cases b2
 case true=>
  have hR2:=HR.out;rw[HB2.out,if_pos rfl]at hR2;have hcall:=HA.out.branch v3 w3 t q h3 (by rw[fU.out];exact Ga HB2.out) (by rw[fU.out];exact hR2);have HC:=kH hcall;clear hcall hR2;go_wp2_with fail
  refine(HC.out).mono ?_;rintro e w4 ⟨k4,t4,a4,z4,A4,n4,c4,rfl,lD,v4,hv4,h4,iI⟩;try dsimp only at hv4 lD
  have iY:=kH hv4;have fB:=iI.blk h3 dD;have P4:=P3.trans iI;replace lD:=aF.weak (Q:=fun g=>w.heap.size+1<=g) (fun g _ hg=>aac dD.lt hg) _ _ lD
  clear hv4 iI;have aV:=trivial;obtain⟨⟨r0,r1,r2,r3,r4⟩,g0,g1,g2,g3,g4⟩:=fB.five;go_wp2_with fail
  have bC:=kH (bO (v:=v) h4 P4 rfl fB hgl lD);clear lD;rw[iY.out]at bC;refine bodyPost_ret (v:=.agg #[.int .i64 k4,.string t4,.int .i64 a4,.int .i64 z4,.slice A4 n4 c4]) (by simp[results,Tryz.results74,go_sem,r0,r1,r2,r3,r4]) rfl ?_;try rw[aV.out]
  exact bC.out
 have hR2:=HR.out;rw[HB2.out,if_neg (by simp)]at hR2;replace HR:=kH hR2
 clear hR2;go_wp2_with fail
 cases b3
 case true=>
  obtain⟨x4,q4,x6,q6,hx,hy,hrq⟩:∃x q1 y q2,aO E.bs E.l f (.expr 1) (aC E.l v.st)=some ([x],q1)/\aO E.bs E.l f .block q1=some ([y],q2)/\(t,q)=(aI E.l q2 v.st.k 15 [] [x,y],q2):=by
   have:=HR.out;rw[HB3.out,if_pos rfl]at this;obtain⟨x,p,h1,h2⟩:=fE this;obtain⟨y,p2,h3,h4⟩:=fE h2;simp at h4;exact⟨x,p,y,p2,h1,h3,by rw[<- h4.1,<- h4.2]⟩
  have HX:=kH hx;have HY:=kH hy;have aV:=kH hrq;clear hx hy hrq HR;refine(pg E hE v3 _ h3 fU.out [119,104,105,108,101] HB3.out).mono ?_;rintro e w4 ⟨rfl,v4,hv4,h4,iI⟩;have iY:=kH hv4;have fB:=iI.blk h3 dD;have P4:=P3.trans iI;clear hv4 iI;have hcall:=HA.out.expr 1 v4 w4 x4 q4 h4 (by omega) (by omega) (by rw[iY.out];exact HX.out);have HC:=kH hcall;clear hcall;go_wp2_with fail
  refine(HC.out).mono ?_;rintro e w5 ⟨k5,t5,a5,z5,A5,n5,c5,rfl,jH,v5,hv5,h5,iH⟩;try dsimp only at hv5 jH
  have HV5:=kH hv5;have fK:=iH.blk h4 fB;have P5:=P4.trans iH;replace jH:=aF.weak (Q:=fun g=>w.heap.size+1<=g) (fun g _ hg=>aac fB.lt hg) _ _ jH
  clear hv5 iH;go_wp2_with fail
  generalize tO:w5.alloc (.cells #[.int .i64 k5,.string t5,.int .i64 a5,.int .i64 z5,.slice A5 n5 c5] 24)=w6
  have hb6:Below w5.heap.size w5 w6:=by rw[<- tO];exact ae _ _
  have X5:iA w6 _ w5.heap.size _ (.int .i64 k5) (.string t5) (.int .i64 a5) (.int .i64 z5) (.slice A5 n5 c5):=⟨by rw[<- tO];exact ak.new w5 _ _,aF.keeps (dB.of_below hb6) _ _ jH⟩
  have hs6:w6.heap.size=w5.heap.size+1:=by rw[<- tO];simp
  have h6:=h5.below hb6;have fI:=fK.below hb6 fK.lt;have P6:=P5.trans (PM.of_below hb6);obtain⟨v6,hv6⟩:∃vv,vv=v5:=⟨_,rfl⟩
  have lU:=HV5;rw[<- hv6]at h6 P6 lU;try rw[<- hs6]
  clear hv6 tO jH hs6;have hcall:=HA.out.block v6 w6 x6 q6 h6 (by rw[lU.out];exact HY.out);have ug:=kH hcall;clear hcall;refine(ug.out).mono ?_;rintro e w7 ⟨k7,t7,a7,z7,A7,n7,c7,rfl,lQ,v7,hv7,h7,jd⟩;try dsimp only at hv7 lQ
  have lT:=kH hv7;have fH:=jd.blk h6 fI;have P7:=P6.trans jd;replace lQ:=aF.weak (Q:=fun g=>w.heap.size+1<=g) (fun g _ hg=>aac fI.lt hg) _ _ lQ
  replace X5:=X5.pm jd h6
  clear hv7 jd;obtain⟨⟨IE,IB,Iz,Iw,Ir⟩,Ip,Im,Ik,Ii,Ig⟩:=X5.1.five;have Ic:=X5.1.lt;go_wp2_with fail
  clear IE IB Iz Iw Ir Ip Im Ik Ii Ig Ic;generalize qd:w7.alloc (.cells #[.int .i64 k7,.string t7,.int .i64 a7,.int .i64 z7,.slice A7 n7 c7] 24)=w8
  have fJ:Below w7.heap.size w7 w8:=by rw[<- qd];exact ae _ _
  have X7:iA w8 _ w7.heap.size _ (.int .i64 k7) (.string t7) (.int .i64 a7) (.int .i64 z7) (.slice A7 n7 c7):=⟨by rw[<- qd];exact ak.new w7 _ _,aF.keeps (dB.of_below fJ) _ _ lQ⟩
  have jh:w8.heap.size=w7.heap.size+1:=by rw[<- qd];simp
  have h8:=h7.below fJ;have eB:=fH.below fJ fH.lt;have P8:=P7.trans (PM.of_below fJ);replace X5:=X5.below fJ
  obtain⟨v8,eX⟩:∃vv,vv=v7:=⟨_,rfl⟩
  have ic:=lT;rw[<- eX]at h8 P8 ic;try rw[<- jh]
  clear eX qd lQ jh;have FQ:=kH (yo X5.2 X7.2 (by have:=eB.lt;omega));generalize nX:w8.alloc (.cells #[.int .i64 k5,.string t5,.int .i64 a5,.int .i64 z5,.slice A5 n5 c5,.int .i64 k7,.string t7,.int .i64 a7,.int .i64 z7,.slice A7 n7 c7] 24)=w9 at FQ⊢
  have ek:Below w8.heap.size w8 w9:=by rw[<- nX];exact ae _ _
  have h9:=h8.below ek;have fA:=eB.below ek eB.lt;have P9:=P8.trans (PM.of_below ek);obtain⟨v9,iU⟩:∃vv,vv=v8:=⟨_,rfl⟩
  have kL:=ic;rw[<- iU]at h9 P9 kL;clear iU nX;refine(dY E hE v9 _ h9 v.st.k 15 [] (w.heap.size+1) (some ⟨w8.heap.size,0,none⟩) 2 2 [x4,x6] FQ.out).mono ?_;rintro e bJ ⟨rfl,jW,mQ⟩;have h10:=h9.below jW;have dV:=fA.below jW fA.lt;obtain⟨⟨r0,r1,r2,r3,r4⟩,g0,g1,g2,g3,g4⟩:=dV.five;go_wp2_with fail
  have bC:=kH (bO (v:=v) h10 (P9.trans (PM.of_below jW)) rfl dV hgl mQ);clear mQ;refine bodyPost_ret (v:=.agg #[.int .i64 15,.string (bI []),.int .i64 (bW E.l v9.st v.st.k [x4,x6]),.int .i64 (v9.st.last:Int),.slice (some ⟨w8.heap.size,0,none⟩) 2 2]) (by simp[results,Tryz.results74,go_sem,r0,r1,r2,r3,r4]) rfl ?_;exact Eq.mp (congrArg (fun r=>bK E w v r _ _) (show(aI E.l v9.st v.st.k 15 [] [x4,x6],v9.st)=_ by rw[aV.out,kL.out])) bC.out
 have hR2:=HR.out;rw[HB3.out,if_neg (by simp)]at hR2;replace HR:=kH hR2
 clear hR2;refine(qJ E hE v3 _ h3 fU.out [119,104,105,108,101] HB3.out).mono ?_;rintro e w4 ⟨rfl,v4,hv4,h4,iI⟩;have iY:=kH hv4;have fB:=iI.blk h3 dD;have P4:=P3.trans iI;clear hv4 iI;go_wp2_with fail
 cases b4
 case true=>
  obtain⟨x8,q8,DR,Gy,ZL,q13,hx,hy,hz,hrq⟩:∃x q1 y q2 z q3,aO E.bs E.l f (.expr 1) (aH E.bs E.l (dG E.l (aC E.l v.st)) [61])=some ([x],q1)/\aO E.bs E.l f (.expr 1) (aH E.bs E.l q1 [116,111])=some ([y],q2)/\aO E.bs E.l f .block q2=some ([z],q3)/\(t,q)=(aI E.l q3 v.st.k 16 (dF E.bs E.l (aC E.l v.st)) [x,y,z],q3):=by
   have:=HR.out;rw[pK.out,if_pos rfl]at this;obtain⟨x,p,h1,h2⟩:=fE this;obtain⟨y,p2,h3,h4⟩:=fE h2;obtain⟨z,p3,h5,h6⟩:=fE h4;simp at h6;exact⟨x,p,y,p2,z,p3,h1,h3,h5,by rw[<- h6.1,<- h6.2]⟩
  have HX:=kH hx;have HY:=kH hy;have HZ:=kH hz;have aV:=kH hrq;clear hx hy hz hrq HR;refine(pg E hE v4 _ h4 iY.out [102,111,114] pK.out).mono ?_;rintro e w5 ⟨rfl,v5,hv5,h5,iH⟩;have HV5:=kH hv5;have fK:=iH.blk h4 fB;have P5:=P4.trans iH;clear hv5 iH;go_wp2_with fail
  refine(RL E hE v5 _ h5 HV5.out).mono ?_;rintro e w6 ⟨rfl,v6,hv6,h6,dM⟩;have lU:=kH hv6;have fI:=dM.blk h5 fK;have P6:=P5.trans dM;clear hv6 dM;go_wp2_with fail
  refine(kI E hE v6 _ h6 lU.out [61]).mono ?_;rintro e w7 ⟨rfl,v7,hv7,h7,jd⟩;have lT:=kH hv7;have fH:=jd.blk h6 fI;have P7:=P6.trans jd;clear hv7 jd;have hcall:=HA.out.expr 1 v7 w7 x8 q8 h7 (by omega) (by omega) (by rw[lT.out];exact HX.out);have HC:=kH hcall;clear hcall;go_wp2_with fail
  refine(HC.out).mono ?_;rintro e w8 ⟨k8,t8,a8,z8,A8,n8,c8,rfl,rQ,v8,eX,h8,ed⟩;try dsimp only at eX rQ
  have ic:=kH eX;have eB:=ed.blk h7 fH;have P8:=P7.trans ed;replace rQ:=aF.weak (Q:=fun g=>w.heap.size+1<=g) (fun g _ hg=>aac fH.lt hg) _ _ rQ
  clear eX ed;go_wp2_with fail
  generalize nX:w8.alloc (.cells #[.int .i64 k8,.string t8,.int .i64 a8,.int .i64 z8,.slice A8 n8 c8] 24)=w9
  have ek:Below w8.heap.size w8 w9:=by rw[<- nX];exact ae _ _
  have X8:iA w9 _ w8.heap.size _ (.int .i64 k8) (.string t8) (.int .i64 a8) (.int .i64 z8) (.slice A8 n8 c8):=⟨by rw[<- nX];exact ak.new w8 _ _,aF.keeps (dB.of_below ek) _ _ rQ⟩
  have tL:w9.heap.size=w8.heap.size+1:=by rw[<- nX];simp
  have h9:=h8.below ek;have fA:=eB.below ek eB.lt;have P9:=P8.trans (PM.of_below ek);obtain⟨v9,iU⟩:∃vv,vv=v8:=⟨_,rfl⟩
  have kL:=ic;rw[<- iU]at h9 P9 kL;try rw[<- tL]
  clear iU nX rQ tL;refine(kI E hE v9 _ h9 kL.out [116,111]).mono ?_;rintro e bJ ⟨rfl,v10,gL,h10,fw⟩;have jf:=kH gL;have dV:=fw.blk h9 fA;have jZ:=P9.trans fw;replace X8:=X8.pm fw h9
  clear gL fw;have hcall:=HA.out.expr 1 v10 bJ DR Gy h10 (by omega) (by omega) (by rw[jf.out];exact HY.out);have ug:=kH hcall;clear hcall;go_wp2_with fail
  refine(ug.out).mono ?_;rintro e jF ⟨k11,t11,KM,Jp,BN,n11,c11,rfl,nY,v11,lW,h11,nV⟩;try dsimp only at lW nY
  have ni:=kH lW;have jq:=nV.blk h10 dV;have rA:=jZ.trans nV;replace nY:=aF.weak (Q:=fun g=>w.heap.size+1<=g) (fun g _ hg=>aac dV.lt hg) _ _ nY
  replace X8:=X8.pm nV h10
  clear lW nV;go_wp2_with fail
  generalize yX:jF.alloc (.cells #[.int .i64 k11,.string t11,.int .i64 KM,.int .i64 Jp,.slice BN n11 c11] 24)=mW
  have r9:Below jF.heap.size jF mW:=by rw[<- yX];exact ae _ _
  have wZ:iA mW _ jF.heap.size _ (.int .i64 k11) (.string t11) (.int .i64 KM) (.int .i64 Jp) (.slice BN n11 c11):=⟨by rw[<- yX];exact ak.new jF _ _,aF.keeps (dB.of_below r9) _ _ nY⟩
  have IV:mW.heap.size=jF.heap.size+1:=by rw[<- yX];simp
  have h12:=h11.below r9;have je:=jq.below r9 jq.lt;have mY:=rA.trans (PM.of_below r9);replace X8:=X8.below r9
  obtain⟨v12,lJ⟩:∃vv,vv=v11:=⟨_,rfl⟩
  have nK:=ni;rw[<- lJ]at h12 mY nK;try rw[<- IV]
  clear lJ yX nY IV;have hcall:=HA.out.block v12 mW ZL q13 h12 (by rw[nK.out];exact HZ.out);have La:=kH hcall;clear hcall;refine(La.out).mono ?_;rintro e uC ⟨k13,t13,a13,z13,A13,n13,c13,rfl,qZ,v13,yR,qf,Ca⟩;try dsimp only at yR qZ
  have DJ:=kH yR;have lY:=Ca.blk h12 je;have FJ:=mY.trans Ca;replace qZ:=aF.weak (Q:=fun g=>w.heap.size+1<=g) (fun g _ hg=>aac je.lt hg) _ _ qZ
  replace X8:=X8.pm Ca h12
  replace wZ:=wZ.pm Ca h12
  clear yR Ca;obtain⟨⟨IC,IA,Iy,Iu,Iq⟩,Io,Il,Ij,Ih,Ie⟩:=X8.1.five;have Ib:=X8.1.lt;obtain⟨⟨Ub,T9,TY,TV,TT⟩,TR,TP,TM,TK,TI⟩:=wZ.1.five;have TG:=wZ.1.lt;go_wp2_with fail
  clear IC IA Iy Iu Iq Io Il Ij Ih Ie Ib;clear Ub T9 TY TV TT TR TP TM TK TI TG;generalize U6:uC.alloc (.cells #[.int .i64 k13,.string t13,.int .i64 a13,.int .i64 z13,.slice A13 n13 c13] 24)=xh
  have qc:Below uC.heap.size uC xh:=by rw[<- U6];exact ae _ _
  have X13:iA xh _ uC.heap.size _ (.int .i64 k13) (.string t13) (.int .i64 a13) (.int .i64 z13) (.slice A13 n13 c13):=⟨by rw[<- U6];exact ak.new uC _ _,aF.keeps (dB.of_below qc) _ _ qZ⟩
  have hs14:xh.heap.size=uC.heap.size+1:=by rw[<- U6];simp
  have yE:=qf.below qc;have vw:=lY.below qc lY.lt;have Qx:=FJ.trans (PM.of_below qc);replace X8:=X8.below qc
  replace wZ:=wZ.below qc
  obtain⟨v14,Lr⟩:∃vv,vv=v13:=⟨_,rfl⟩
  have Vl:=DJ;rw[<- Lr]at yE Qx Vl;try rw[<- hs14]
  clear Lr U6 qZ hs14;have HK15:=kH (ym X8.2 wZ.2 X13.2 (by have:=vw.lt;omega));generalize I1:xh.alloc (.cells #[.int .i64 k8,.string t8,.int .i64 a8,.int .i64 z8,.slice A8 n8 c8,.int .i64 k11,.string t11,.int .i64 KM,.int .i64 Jp,.slice BN n11 c11,.int .i64 k13,.string t13,.int .i64 a13,.int .i64 z13,.slice A13 n13 c13] 24)=Gm at HK15⊢
  have Ao:Below xh.heap.size xh Gm:=by rw[<- I1];exact ae _ _
  have Eb:=yE.below Ao;have U7:=vw.below Ao vw.lt;have Xt:=Qx.trans (PM.of_below Ao);obtain⟨v15,O5⟩:∃vv,vv=v14:=⟨_,rfl⟩
  have QC:=Vl;rw[<- O5]at Eb Xt QC;clear O5 I1;refine(dY E hE v15 _ Eb v.st.k 16 (dF E.bs E.l (aC E.l v.st)) (w.heap.size+1) (some ⟨xh.heap.size,0,none⟩) 3 3 [x8,DR,ZL] HK15.out).mono ?_;rintro e w16 ⟨rfl,Y5,hT16⟩;have h16:=Eb.below Y5;have Du:=U7.below Y5 U7.lt;obtain⟨⟨r0,r1,r2,r3,r4⟩,g0,g1,g2,g3,g4⟩:=Du.five;go_wp2_with fail
  have bC:=kH (bO (v:=v) h16 (Xt.trans (PM.of_below Y5)) rfl Du hgl hT16);clear hT16;refine bodyPost_ret (v:=.agg #[.int .i64 16,.string (bI (dF E.bs E.l (aC E.l v.st))),.int .i64 (bW E.l v15.st v.st.k [x8,DR,ZL]),.int .i64 (v15.st.last:Int),.slice (some ⟨xh.heap.size,0,none⟩) 3 3]) (by simp[results,Tryz.results74,go_sem,r0,r1,r2,r3,r4]) rfl ?_;exact Eq.mp (congrArg (fun r=>bK E w v r _ _) (show(aI E.l v15.st v.st.k 16 (dF E.bs E.l (aC E.l v.st)) [x8,DR,ZL],v15.st)=_ by rw[aV.out,QC.out])) bC.out
 have hR2:=HR.out;rw[pK.out,if_neg (by simp)]at hR2;replace HR:=kH hR2
 clear hR2;refine(qJ E hE v4 _ h4 iY.out [102,111,114] pK.out).mono ?_;rintro e w5 ⟨rfl,v5,hv5,h5,iH⟩;have HV5:=kH hv5;have fK:=iH.blk h4 fB;have P5:=P4.trans iH;clear hv5 iH;go_wp2_with fail
 cases b5
 case true=>
  have hR2:=HR.out;rw[fT.out,if_pos rfl]at hR2;obtain⟨b7,dQ⟩:∃x,C8 E.bs E.l (aC E.l v.st)=x:=⟨_,rfl⟩
  have gT:=kH dQ;obtain⟨b8,fJ⟩:∃x,bM E.bs E.l (aC E.l v.st) [110,111,116]=x:=⟨_,rfl⟩
  have rH:=kH fJ;obtain⟨b9,ek⟩:∃x,bM E.bs E.l (aC E.l v.st) [45]=x:=⟨_,rfl⟩
  have vT:=kH ek;replace HR:=kH hR2
  clear hR2 dQ fJ ek;refine(pg E hE v5 _ h5 HV5.out [114,101,116,117,114,110] fT.out).mono ?_;rintro e w6 ⟨rfl,v6,hv6,h6,dM⟩;have lU:=kH hv6;have fI:=dM.blk h5 fK;have P6:=P5.trans dM;clear hv6 dM;have hk2:w6.cell? ⟨E.gp,2,none⟩=some (.int .i64 (v6.st.k:Int)):=h6.blk.cell 2;go_wp2_with fail
  refine(iM E hE v6 _ h6 v6.st.k 0 [] (w.heap.size+1)).mono ?_;rintro e w7 ⟨rfl,dQ,lQ⟩;have h7:=h6.below dQ;have fH:=fI.below dQ fI.lt;have P7:=P6.trans (PM.of_below dQ);clear hk2 dQ;go_wp2_with fail
  generalize qd:w7.alloc (.cells #[.int .i64 0,.string (bI []),.int .i64 (bW E.l v6.st v6.st.k []),.int .i64 (v6.st.last:Int),.slice none 0 0] 24)=w8
  have fJ:Below w7.heap.size w7 w8:=by rw[<- qd];exact ae _ _
  have X8:iA w8 _ w7.heap.size (aI E.l v6.st v6.st.k 0 [] []) (.int .i64 0) (.string (bI [])) (.int .i64 (bW E.l v6.st v6.st.k [])) (.int .i64 (v6.st.last:Int)) (.slice none 0 0):=⟨by rw[<- qd];exact ak.new w7 _ _,aF.keeps (dB.of_below fJ) _ _ lQ⟩
  have h8:=h7.below fJ;have eB:=fH.below fJ fH.lt;have P8:=P7.trans (PM.of_below fJ);have hlt7:=fH.lt;obtain⟨v8,eX⟩:∃vv,vv=v6:=⟨_,rfl⟩
  have ic:=lU;rw[<- eX]at h8 P8 ic;clear eX qd lQ;refine(Uf E hE v8 _ h8 ic.out gT.out).mono ?_;rintro e w9 ⟨rfl,v9,iU,h9,gH⟩;have kL:=kH iU;have fA:=gH.blk h8 eB;have P9:=P8.trans gH;replace X8:=X8.pm gH h8
  clear iU gH;cases b7
  case true=>
   obtain⟨x7,q7,hx,hrq⟩:∃x q1,aO E.bs E.l f (.expr 1) (aC E.l v.st)=some ([x],q1)/\(t,q)=(aI E.l (aH E.bs E.l q1 [59]) v.st.k 17 [] [x],aH E.bs E.l q1 [59]):=by
    have:=HR.out;rw[if_pos (by simp[gT.out])]at this;obtain⟨x,p,h1,h2⟩:=fE this;simp at h2;exact⟨x,p,h1,by rw[<- h2.1,<- h2.2]⟩
   have HX:=kH hx;have aV:=kH hrq;clear hx hrq HR;have hcall:=HA.out.expr 1 v9 w9 x7 q7 h9 (by omega) (by omega) (by rw[kL.out];exact HX.out);have HC:=kH hcall;have hgI:=X8.1.lt;clear hcall;go_wp2_with fail
   refine(HC.out).mono ?_;rintro e Cj ⟨rO,t31,a31,z31,rT,n31,c31,rfl,mO,v31,hv31,h31,ng⟩;try dsimp only at hv31 mO
   have DI:=kH hv31;have wS:=ng.blk h9 fA;have KO:=P9.trans ng;replace mO:=aF.weak (Q:=fun g=>w.heap.size+1<=g/\g≠w7.heap.size) (fun g _ hg=>⟨aac fA.lt hg,by omega⟩) _ _ mO
   have o9:=ng.blk h9 X8.1;obtain⟨⟨q0,q1',q2,q3,q4⟩,Gx,Gw,Gv,Gu,Gt⟩:=o9.five;have Dk:=o9.lt;clear hv31 ng X8;go_wp2_with fail
   obtain⟨h32,zi,wU,p9⟩:=vI h31 KO o9 (by omega) (.int .i64 rO) (.string t31) (.int .i64 a31) (.int .i64 z31) (.slice rT n31 c31);have vg:=wS.keep (p9 w.heap.size _ (by omega) wS);have oU:iA _ _ _ _ (.int .i64 rO) (.string t31) (.int .i64 a31) (.int .i64 z31) (.slice rT n31 c31):=⟨wU,aF.keeps (w':=bZ Cj w7.heap.size (.int .i64 rO) (.string t31) (.int .i64 a31) (.int .i64 z31) (.slice rT n31 c31)) (fun g cs hP hc=>p9 g cs hP.2 hc) _ _ mO⟩
   obtain⟨v32,hv32⟩:∃vv,vv=v31:=⟨_,rfl⟩
   have xc:=DI;rw[<- hv32]at h32 zi xc;clear hv32 wU p9 mO o9 q0 q1' q2 q3 q4 Gx Gw Gv Gu Gt Dk;refine(kI E hE v32 _ h32 xc.out [59]).mono ?_;rintro e uQ ⟨rfl,v33,wK,Cv,wN⟩;have Be:=kH wK;have tT:=wN.blk h32 vg;have FI:=zi.trans wN;replace oU:=oU.pm wN h32
   clear wK wN;obtain⟨⟨JM,JL,JK,JJ,JI⟩,JH,JG,JF,JE,JD⟩:=oU.1.five;have JC:=oU.1.lt;go_wp2_with fail
   clear JM JL JK JJ JI JH JG JF JE JD JC;replace oU:=oU.weak (Q:=fun g=>w.heap.size+1<=g) (fun g _ hp=>hp.1)
   have FR:=kH (kE oU.2 (by have:=tT.lt;omega));generalize Fe:uQ.alloc (.cells #[.int .i64 rO,.string t31,.int .i64 a31,.int .i64 z31,.slice rT n31 c31] 24)=NP at FR⊢
   have oJ:Below uQ.heap.size uQ NP:=by rw[<- Fe];exact ae _ _
   have AA:=Cv.below oJ;have wR:=tT.below oJ tT.lt;have M7:=FI.trans (PM.of_below oJ);obtain⟨v34,hv34⟩:∃vv,vv=v33:=⟨_,rfl⟩
   have FK:=Be;rw[<- hv34]at AA M7 FK;clear hv34 Fe;refine(dY E hE v34 _ AA v.st.k 17 [] (w.heap.size+1) (some ⟨uQ.heap.size,0,none⟩) 1 1 [x7] FR.out).mono ?_;rintro e w35 ⟨rfl,fV,Fh⟩;have uG:=AA.below fV;have Fj:=wR.below fV wR.lt;obtain⟨⟨r0,r1,r2,r3,r4⟩,g0,g1,g2,g3,g4⟩:=Fj.five;go_wp2_with fail
   have bC:=kH (bO (v:=v) uG (M7.trans (PM.of_below fV)) rfl Fj hgl Fh);clear Fh;refine bodyPost_ret (v:=.agg #[.int .i64 17,.string (bI []),.int .i64 (bW E.l v34.st v.st.k [x7]),.int .i64 (v34.st.last:Int),.slice (some ⟨uQ.heap.size,0,none⟩) 1 1]) (by simp[results,Tryz.results74,go_sem,r0,r1,r2,r3,r4]) rfl ?_;exact Eq.mp (congrArg (fun r=>bK E w v r _ _) (show(aI E.l v34.st v.st.k 17 [] [x7],v34.st)=_ by rw[aV.out,FK.out])) bC.out
  go_wp2_with fail
  refine(BA E hE v9 _ h9 kL.out [110,111,116] rH.out).mono ?_;rintro e bJ ⟨rfl,v10,gL,h10,fw⟩;have jf:=kH gL;have dV:=fw.blk h9 fA;have jZ:=P9.trans fw;replace X8:=X8.pm fw h9
  clear gL fw;cases b8
  case true=>
   obtain⟨x7,q7,hx,hrq⟩:∃x q1,aO E.bs E.l f (.expr 1) (aC E.l v.st)=some ([x],q1)/\(t,q)=(aI E.l (aH E.bs E.l q1 [59]) v.st.k 17 [] [x],aH E.bs E.l q1 [59]):=by
    have:=HR.out;rw[if_pos (by simp[rH.out])]at this;obtain⟨x,p,h1,h2⟩:=fE this;simp at h2;exact⟨x,p,h1,by rw[<- h2.1,<- h2.2]⟩
   have HX:=kH hx;have aV:=kH hrq;clear hx hrq HR;have hcall:=HA.out.expr 1 v10 bJ x7 q7 h10 (by omega) (by omega) (by rw[jf.out];exact HX.out);have HC:=kH hcall;have hgI:=X8.1.lt;clear hcall;go_wp2_with fail
   refine(HC.out).mono ?_;rintro e Cj ⟨rO,t31,a31,z31,rT,n31,c31,rfl,mO,v31,hv31,h31,ng⟩;try dsimp only at hv31 mO
   have DI:=kH hv31;have wS:=ng.blk h10 dV;have KO:=jZ.trans ng;replace mO:=aF.weak (Q:=fun g=>w.heap.size+1<=g/\g≠w7.heap.size) (fun g _ hg=>⟨aac dV.lt hg,by omega⟩) _ _ mO
   have o9:=ng.blk h10 X8.1;obtain⟨⟨q0,q1',q2,q3,q4⟩,Gx,Gw,Gv,Gu,Gt⟩:=o9.five;have Dk:=o9.lt;clear hv31 ng X8;go_wp2_with fail
   obtain⟨h32,zi,wU,p9⟩:=vI h31 KO o9 (by omega) (.int .i64 rO) (.string t31) (.int .i64 a31) (.int .i64 z31) (.slice rT n31 c31);have vg:=wS.keep (p9 w.heap.size _ (by omega) wS);have oU:iA _ _ _ _ (.int .i64 rO) (.string t31) (.int .i64 a31) (.int .i64 z31) (.slice rT n31 c31):=⟨wU,aF.keeps (w':=bZ Cj w7.heap.size (.int .i64 rO) (.string t31) (.int .i64 a31) (.int .i64 z31) (.slice rT n31 c31)) (fun g cs hP hc=>p9 g cs hP.2 hc) _ _ mO⟩
   obtain⟨v32,hv32⟩:∃vv,vv=v31:=⟨_,rfl⟩
   have xc:=DI;rw[<- hv32]at h32 zi xc;clear hv32 wU p9 mO o9 q0 q1' q2 q3 q4 Gx Gw Gv Gu Gt Dk;refine(kI E hE v32 _ h32 xc.out [59]).mono ?_;rintro e uQ ⟨rfl,v33,wK,Cv,wN⟩;have Be:=kH wK;have tT:=wN.blk h32 vg;have FI:=zi.trans wN;replace oU:=oU.pm wN h32
   clear wK wN;obtain⟨⟨JM,JL,JK,JJ,JI⟩,JH,JG,JF,JE,JD⟩:=oU.1.five;have JC:=oU.1.lt;go_wp2_with fail
   clear JM JL JK JJ JI JH JG JF JE JD JC;replace oU:=oU.weak (Q:=fun g=>w.heap.size+1<=g) (fun g _ hp=>hp.1)
   have FR:=kH (kE oU.2 (by have:=tT.lt;omega));generalize Fe:uQ.alloc (.cells #[.int .i64 rO,.string t31,.int .i64 a31,.int .i64 z31,.slice rT n31 c31] 24)=NP at FR⊢
   have oJ:Below uQ.heap.size uQ NP:=by rw[<- Fe];exact ae _ _
   have AA:=Cv.below oJ;have wR:=tT.below oJ tT.lt;have M7:=FI.trans (PM.of_below oJ);obtain⟨v34,hv34⟩:∃vv,vv=v33:=⟨_,rfl⟩
   have FK:=Be;rw[<- hv34]at AA M7 FK;clear hv34 Fe;refine(dY E hE v34 _ AA v.st.k 17 [] (w.heap.size+1) (some ⟨uQ.heap.size,0,none⟩) 1 1 [x7] FR.out).mono ?_;rintro e w35 ⟨rfl,fV,Fh⟩;have uG:=AA.below fV;have Fj:=wR.below fV wR.lt;obtain⟨⟨r0,r1,r2,r3,r4⟩,g0,g1,g2,g3,g4⟩:=Fj.five;go_wp2_with fail
   have bC:=kH (bO (v:=v) uG (M7.trans (PM.of_below fV)) rfl Fj hgl Fh);clear Fh;refine bodyPost_ret (v:=.agg #[.int .i64 17,.string (bI []),.int .i64 (bW E.l v34.st v.st.k [x7]),.int .i64 (v34.st.last:Int),.slice (some ⟨uQ.heap.size,0,none⟩) 1 1]) (by simp[results,Tryz.results74,go_sem,r0,r1,r2,r3,r4]) rfl ?_;exact Eq.mp (congrArg (fun r=>bK E w v r _ _) (show(aI E.l v34.st v.st.k 17 [] [x7],v34.st)=_ by rw[aV.out,FK.out])) bC.out
  go_wp2_with fail
  refine(BA E hE v10 _ h10 jf.out [45] vT.out).mono ?_;rintro e jF ⟨rfl,v11,lW,h11,nV⟩;have ni:=kH lW;have jq:=nV.blk h10 dV;have rA:=jZ.trans nV;replace X8:=X8.pm nV h10
  clear lW nV;cases b9
  case true=>
   obtain⟨x7,q7,hx,hrq⟩:∃x q1,aO E.bs E.l f (.expr 1) (aC E.l v.st)=some ([x],q1)/\(t,q)=(aI E.l (aH E.bs E.l q1 [59]) v.st.k 17 [] [x],aH E.bs E.l q1 [59]):=by
    have:=HR.out;rw[if_pos (by simp[vT.out])]at this;obtain⟨x,p,h1,h2⟩:=fE this;simp at h2;exact⟨x,p,h1,by rw[<- h2.1,<- h2.2]⟩
   have HX:=kH hx;have aV:=kH hrq;clear hx hrq HR;have hcall:=HA.out.expr 1 v11 jF x7 q7 h11 (by omega) (by omega) (by rw[ni.out];exact HX.out);have HC:=kH hcall;have hgI:=X8.1.lt;clear hcall;go_wp2_with fail
   refine(HC.out).mono ?_;rintro e Cj ⟨rO,t31,a31,z31,rT,n31,c31,rfl,mO,v31,hv31,h31,ng⟩;try dsimp only at hv31 mO
   have DI:=kH hv31;have wS:=ng.blk h11 jq;have KO:=rA.trans ng;replace mO:=aF.weak (Q:=fun g=>w.heap.size+1<=g/\g≠w7.heap.size) (fun g _ hg=>⟨aac jq.lt hg,by omega⟩) _ _ mO
   have o9:=ng.blk h11 X8.1;obtain⟨⟨q0,q1',q2,q3,q4⟩,Gx,Gw,Gv,Gu,Gt⟩:=o9.five;have Dk:=o9.lt;clear hv31 ng X8;go_wp2_with fail
   obtain⟨h32,zi,wU,p9⟩:=vI h31 KO o9 (by omega) (.int .i64 rO) (.string t31) (.int .i64 a31) (.int .i64 z31) (.slice rT n31 c31);have vg:=wS.keep (p9 w.heap.size _ (by omega) wS);have oU:iA _ _ _ _ (.int .i64 rO) (.string t31) (.int .i64 a31) (.int .i64 z31) (.slice rT n31 c31):=⟨wU,aF.keeps (w':=bZ Cj w7.heap.size (.int .i64 rO) (.string t31) (.int .i64 a31) (.int .i64 z31) (.slice rT n31 c31)) (fun g cs hP hc=>p9 g cs hP.2 hc) _ _ mO⟩
   obtain⟨v32,hv32⟩:∃vv,vv=v31:=⟨_,rfl⟩
   have xc:=DI;rw[<- hv32]at h32 zi xc;clear hv32 wU p9 mO o9 q0 q1' q2 q3 q4 Gx Gw Gv Gu Gt Dk;refine(kI E hE v32 _ h32 xc.out [59]).mono ?_;rintro e uQ ⟨rfl,v33,wK,Cv,wN⟩;have Be:=kH wK;have tT:=wN.blk h32 vg;have FI:=zi.trans wN;replace oU:=oU.pm wN h32
   clear wK wN;obtain⟨⟨JM,JL,JK,JJ,JI⟩,JH,JG,JF,JE,JD⟩:=oU.1.five;have JC:=oU.1.lt;go_wp2_with fail
   clear JM JL JK JJ JI JH JG JF JE JD JC;replace oU:=oU.weak (Q:=fun g=>w.heap.size+1<=g) (fun g _ hp=>hp.1)
   have FR:=kH (kE oU.2 (by have:=tT.lt;omega));generalize Fe:uQ.alloc (.cells #[.int .i64 rO,.string t31,.int .i64 a31,.int .i64 z31,.slice rT n31 c31] 24)=NP at FR⊢
   have oJ:Below uQ.heap.size uQ NP:=by rw[<- Fe];exact ae _ _
   have AA:=Cv.below oJ;have wR:=tT.below oJ tT.lt;have M7:=FI.trans (PM.of_below oJ);obtain⟨v34,hv34⟩:∃vv,vv=v33:=⟨_,rfl⟩
   have FK:=Be;rw[<- hv34]at AA M7 FK;clear hv34 Fe;refine(dY E hE v34 _ AA v.st.k 17 [] (w.heap.size+1) (some ⟨uQ.heap.size,0,none⟩) 1 1 [x7] FR.out).mono ?_;rintro e w35 ⟨rfl,fV,Fh⟩;have uG:=AA.below fV;have Fj:=wR.below fV wR.lt;obtain⟨⟨r0,r1,r2,r3,r4⟩,g0,g1,g2,g3,g4⟩:=Fj.five;go_wp2_with fail
   have bC:=kH (bO (v:=v) uG (M7.trans (PM.of_below fV)) rfl Fj hgl Fh);clear Fh;refine bodyPost_ret (v:=.agg #[.int .i64 17,.string (bI []),.int .i64 (bW E.l v34.st v.st.k [x7]),.int .i64 (v34.st.last:Int),.slice (some ⟨uQ.heap.size,0,none⟩) 1 1]) (by simp[results,Tryz.results74,go_sem,r0,r1,r2,r3,r4]) rfl ?_;exact Eq.mp (congrArg (fun r=>bK E w v r _ _) (show(aI E.l v34.st v.st.k 17 [] [x7],v34.st)=_ by rw[aV.out,FK.out])) bC.out
  have aV:Hid ((t,q)=(aI E.l (aH E.bs E.l (aC E.l v.st) [59]) v.st.k 17 [] [aI E.l v6.st v6.st.k 0 [] []],aH E.bs E.l (aC E.l v.st) [59])):=kH (by
   have:=HR.out;rw[if_neg (by rw[gT.out,rH.out,vT.out];simp)]at this;simp at this
   rw[lU.out,<- this.1,<- this.2])
  clear HR;go_wp2_with fail
  refine(kI E hE v11 _ h11 ni.out [59]).mono ?_;rintro e mW ⟨rfl,v12,lJ,h12,iP⟩;have nK:=kH lJ;have je:=iP.blk h11 jq;have mY:=rA.trans iP;replace X8:=X8.pm iP h11
  clear lJ iP;obtain⟨⟨IC,IA,Iy,Iu,Iq⟩,Io,Il,Ij,Ih,Ie⟩:=X8.1.five;have Ib:=X8.1.lt;go_wp2_with fail
  clear IC IA Iy Iu Iq Io Il Ij Ih Ie Ib;have QM:=kH (kE X8.2 (by have:=je.lt;omega));generalize PO:mW.alloc (.cells #[.int .i64 0,.string (bI []),.int .i64 (bW E.l v6.st v6.st.k []),.int .i64 (v6.st.last:Int),.slice none 0 0] 24)=uC at QM⊢
  have jo:Below mW.heap.size mW uC:=by rw[<- PO];exact ae _ _
  have qf:=h12.below jo;have lY:=je.below jo je.lt;have FJ:=mY.trans (PM.of_below jo);obtain⟨v13,yR⟩:∃vv,vv=v12:=⟨_,rfl⟩
  have DJ:=nK;rw[<- yR]at qf FJ DJ;clear yR PO;refine(dY E hE v13 _ qf v.st.k 17 [] (w.heap.size+1) (some ⟨mW.heap.size,0,none⟩) 1 1 [aI E.l v6.st v6.st.k 0 [] []] QM.out).mono ?_;rintro e xh ⟨rfl,qc,Ar⟩;have yE:=qf.below qc;have vw:=lY.below qc lY.lt;obtain⟨⟨r0,r1,r2,r3,r4⟩,g0,g1,g2,g3,g4⟩:=vw.five;go_wp2_with fail
  have bC:=kH (bO (v:=v) yE (FJ.trans (PM.of_below qc)) rfl vw hgl Ar);clear Ar;refine bodyPost_ret (v:=.agg #[.int .i64 17,.string (bI []),.int .i64 (bW E.l v13.st v.st.k [aI E.l v6.st v6.st.k 0 [] []]),.int .i64 (v13.st.last:Int),.slice (some ⟨mW.heap.size,0,none⟩) 1 1]) (by simp[results,Tryz.results74,go_sem,r0,r1,r2,r3,r4]) rfl ?_;exact Eq.mp (congrArg (fun r=>bK E w v r _ _) (show(aI E.l v13.st v.st.k 17 [] [aI E.l v6.st v6.st.k 0 [] []],v13.st)=_ by rw[aV.out,DJ.out])) bC.out
 have hR2:=HR.out;rw[fT.out,if_neg (by simp)]at hR2;replace HR:=kH hR2
 clear hR2;refine(qJ E hE v5 _ h5 HV5.out [114,101,116,117,114,110] fT.out).mono ?_;rintro e w6 ⟨rfl,v6,hv6,h6,dM⟩;have lU:=kH hv6;have fI:=dM.blk h5 fK;have P6:=P5.trans dM;clear hv6 dM;go_wp2_with fail
 cases b6
 case true=>
  obtain⟨x7,q7,hx,hrq⟩:∃x q1,aO E.bs E.l f (.expr 1) (aC E.l v.st)=some ([x],q1)/\(t,q)=(aI E.l (aH E.bs E.l q1 [59]) v.st.k 18 [] [x],aH E.bs E.l q1 [59]):=by
   have:=HR.out;rw[nZ.out,if_pos rfl]at this;obtain⟨x,p,h1,h2⟩:=fE this;simp at h2;exact⟨x,p,h1,by rw[<- h2.1,<- h2.2]⟩
  have HX:=kH hx;have aV:=kH hrq;clear hx hrq HR;refine(pg E hE v6 _ h6 lU.out [97,115,115,101,114,116] nZ.out).mono ?_;rintro e w7 ⟨rfl,v7,hv7,h7,jd⟩;have lT:=kH hv7;have fH:=jd.blk h6 fI;have P7:=P6.trans jd;clear hv7 jd;have hcall:=HA.out.expr 1 v7 w7 x7 q7 h7 (by omega) (by omega) (by rw[lT.out];exact HX.out);have HC:=kH hcall;clear hcall;go_wp2_with fail
  refine(HC.out).mono ?_;rintro e w8 ⟨k8,t8,a8,z8,A8,n8,c8,rfl,rQ,v8,eX,h8,ed⟩;try dsimp only at eX rQ
  have ic:=kH eX;have eB:=ed.blk h7 fH;have P8:=P7.trans ed;replace rQ:=aF.weak (Q:=fun g=>w.heap.size+1<=g) (fun g _ hg=>aac fH.lt hg) _ _ rQ
  clear eX ed;go_wp2_with fail
  generalize nX:w8.alloc (.cells #[.int .i64 k8,.string t8,.int .i64 a8,.int .i64 z8,.slice A8 n8 c8] 24)=w9
  have ek:Below w8.heap.size w8 w9:=by rw[<- nX];exact ae _ _
  have X8:iA w9 _ w8.heap.size _ (.int .i64 k8) (.string t8) (.int .i64 a8) (.int .i64 z8) (.slice A8 n8 c8):=⟨by rw[<- nX];exact ak.new w8 _ _,aF.keeps (dB.of_below ek) _ _ rQ⟩
  have tL:w9.heap.size=w8.heap.size+1:=by rw[<- nX];simp
  have h9:=h8.below ek;have fA:=eB.below ek eB.lt;have P9:=P8.trans (PM.of_below ek);obtain⟨v9,iU⟩:∃vv,vv=v8:=⟨_,rfl⟩
  have kL:=ic;rw[<- iU]at h9 P9 kL;try rw[<- tL]
  clear iU nX rQ tL;refine(kI E hE v9 _ h9 kL.out [59]).mono ?_;rintro e bJ ⟨rfl,v10,gL,h10,fw⟩;have jf:=kH gL;have dV:=fw.blk h9 fA;have jZ:=P9.trans fw;replace X8:=X8.pm fw h9
  clear gL fw;obtain⟨⟨IC,IA,Iy,Iu,Iq⟩,Io,Il,Ij,Ih,Ie⟩:=X8.1.five;have Ib:=X8.1.lt;go_wp2_with fail
  clear IC IA Iy Iu Iq Io Il Ij Ih Ie Ib;have FT:=kH (kE X8.2 (by have:=dV.lt;omega));generalize tQ:bJ.alloc (.cells #[.int .i64 k8,.string t8,.int .i64 a8,.int .i64 z8,.slice A8 n8 c8] 24)=jF at FT⊢
  have jC:Below bJ.heap.size bJ jF:=by rw[<- tQ];exact ae _ _
  have h11:=h10.below jC;have jq:=dV.below jC dV.lt;have rA:=jZ.trans (PM.of_below jC);obtain⟨v11,lW⟩:∃vv,vv=v10:=⟨_,rfl⟩
  have ni:=jf;rw[<- lW]at h11 rA ni;clear lW tQ;refine(dY E hE v11 _ h11 v.st.k 18 [] (w.heap.size+1) (some ⟨bJ.heap.size,0,none⟩) 1 1 [x7] FT.out).mono ?_;rintro e mW ⟨rfl,r9,hT12⟩;have h12:=h11.below r9;have je:=jq.below r9 jq.lt;obtain⟨⟨r0,r1,r2,r3,r4⟩,g0,g1,g2,g3,g4⟩:=je.five;go_wp2_with fail
  have bC:=kH (bO (v:=v) h12 (rA.trans (PM.of_below r9)) rfl je hgl hT12);clear hT12;refine bodyPost_ret (v:=.agg #[.int .i64 18,.string (bI []),.int .i64 (bW E.l v11.st v.st.k [x7]),.int .i64 (v11.st.last:Int),.slice (some ⟨bJ.heap.size,0,none⟩) 1 1]) (by simp[results,Tryz.results74,go_sem,r0,r1,r2,r3,r4]) rfl ?_;exact Eq.mp (congrArg (fun r=>bK E w v r _ _) (show(aI E.l v11.st v.st.k 18 [] [x7],v11.st)=_ by rw[aV.out,ni.out])) bC.out
 have hR2:=HR.out;rw[nZ.out,if_neg (by simp)]at hR2;replace HR:=kH hR2
 clear hR2;refine(qJ E hE v6 _ h6 lU.out [97,115,115,101,114,116] nZ.out).mono ?_;rintro e w7 ⟨rfl,v7,hv7,h7,jd⟩;have lT:=kH hv7;have fH:=jd.blk h6 fI;have P7:=P6.trans jd;clear hv7 jd;go_wp2_with fail
 refine(vN E hE v7 _ h7 lT.out HK.out).mono ?_;rintro e w8 ⟨rfl,v8,eX,h8,ed⟩;have ic:=kH eX;have eB:=ed.blk h7 fH;have P8:=P7.trans ed;clear eX ed;by_cases hk0:k=0
 ·subst hk0
  obtain⟨x,hx⟩:∃x,oo E.bs E.l v.st=x:=⟨_,rfl⟩
  have HX:=kH hx;clear hx;go_wp2_with fail
  refine(MZ E hE v8 _ h8 ic.out HX.out).mono ?_;rintro e w9 ⟨rfl,v9,iU,h9,gH⟩;have kL:=kH iU;have fA:=gH.blk h8 eB;have P9:=P8.trans gH;clear iU gH;by_cases yS:x=[40]
  ·subst yS
   obtain⟨kids,q1,hy,hrq⟩:∃kids q1,aO E.bs E.l f .args (aC E.l v.st)=some (kids,q1)/\(t,q)=(aI E.l (aH E.bs E.l q1 [59]) v.st.k 19 (bR E.bs E.l v.st.k) kids,aH E.bs E.l q1 [59]):=by
    have:=HR.out;rw[if_pos (by rw[HK.out,HX.out];simp)]at this;obtain⟨ks,p,h1,h2⟩:=vL this;simp at h2;exact⟨ks,p,h1,by rw[<- h2.1,<- h2.2]⟩
   have HY:=kH hy;have aV:=kH hrq;have e40:bI [40]=⟨#[40]⟩:=rfl;rw[e40];clear hy hrq e40;go_wp2_with fail
   refine(vJ E hE v9 _ h9 kL.out (by rw[HK.out];decide)).mono ?_;rintro e bJ ⟨rfl,v10,gL,h10,fw⟩;have jf:=kH gL;have dV:=fw.blk h9 fA;have jZ:=P9.trans fw;clear gL fw;have hcall:=HA.out.args v10 bJ kids q1 h10 (by rw[jf.out];exact FE hE.empty HX.out) (by rw[jf.out];exact HY.out);have HC:=kH hcall;clear hcall;go_wp2_with fail
   refine HC.out.mono ?_;rintro e jF ⟨BN,n11,c11,rfl,hK11,v11,lW,h11,nV⟩;have ni:=kH lW;have jq:=nV.blk h10 dV;have rA:=jZ.trans nV;have FT:=kH (hK11.low (lo':=w.heap.size+1) dV.lt);clear lW nV hK11;go_wp2_with fail
   refine(kI E hE v11 _ h11 ni.out [59]).mono ?_;rintro e mW ⟨rfl,v12,lJ,h12,iP⟩;have nK:=kH lJ;have je:=iP.blk h11 jq;have mY:=rA.trans iP;have pq:=kH (FT.out.keeps (iP.dZ h11));clear lJ iP;go_wp2_with fail
   refine(dY E hE v12 _ h12 v.st.k 19 (bR E.bs E.l v.st.k) (w.heap.size+1) BN n11 c11 kids pq.out).mono ?_;rintro e uC ⟨rfl,jo,qZ⟩;have qf:=h12.below jo;have lY:=je.below jo je.lt;obtain⟨⟨r0,r1,r2,r3,r4⟩,g0,g1,g2,g3,g4⟩:=lY.five;go_wp2_with fail
   have bC:=kH (bO (v:=v) qf (mY.trans (PM.of_below jo)) rfl lY hgl qZ);clear qZ;refine bodyPost_ret (v:=.agg #[.int .i64 19,.string (bI (bR E.bs E.l v.st.k)),.int .i64 (bW E.l v12.st v.st.k kids),.int .i64 (v12.st.last:Int),.slice BN n11 c11]) (by simp[results,Tryz.results74,go_sem,r0,r1,r2,r3,r4]) rfl ?_;exact Eq.mp (congrArg (fun r=>bK E w v r _ _) (show(aI E.l v12.st v.st.k 19 (bR E.bs E.l v.st.k) kids,v12.st)=_ by rw[aV.out,nK.out])) bC.out
  ·obtain⟨wd,hwd⟩:∃y,bI x=y:=⟨_,rfl⟩
   have hwf:(wd.data.toList==[40])=false:=by rw[<- hwd];simpa [bI] using yS
   have hwf2:(wd.toList==[40])=false:=by rw[ByteArray.toList_eq];exact hwf
   rw[hwd]
   obtain⟨DR,Gy,ZK,q14,hx,hy,hrq⟩:∃x q1 y q2,aO E.bs E.l f .place v.st=some ([x],q1)/\aO E.bs E.l f (.expr 1) (aH E.bs E.l q1 [61])=some ([y],q2)/\(t,q)=(aI E.l (aH E.bs E.l q2 [59]) v.st.k 13 [] [x,y],aH E.bs E.l q2 [59]):=by
    have:=HR.out;rw[if_neg (by rw[HK.out,HX.out];simp[yS]),if_pos HK.out]at this;obtain⟨x,p,h1,h2⟩:=fE this;obtain⟨y,p2,h3,h4⟩:=fE h2;simp at h4;exact⟨x,p,y,p2,h1,h3,by rw[<- h4.1,<- h4.2]⟩
   have yI:=kH hx;have HY:=kH hy;have aV:=kH hrq;clear hx hy hrq HR hwd yS;go_wp2_with fail
   refine(vN E hE v9 _ h9 kL.out HK.out).mono ?_;rintro e bJ ⟨rfl,v10,gL,h10,fw⟩;have jf:=kH gL;have dV:=fw.blk h9 fA;have jZ:=P9.trans fw;clear gL fw;have hcall:=HA.out.place v10 bJ DR Gy h10 (by rw[jf.out];exact yI.out);have HC:=kH hcall;clear hcall;go_wp2_with fail
   refine(HC.out).mono ?_;rintro e jF ⟨k11,t11,KM,Jp,BN,n11,c11,rfl,nY,v11,lW,h11,nV⟩;try dsimp only at lW nY
   have ni:=kH lW;have jq:=nV.blk h10 dV;have rA:=jZ.trans nV;replace nY:=aF.weak (Q:=fun g=>w.heap.size+1<=g) (fun g _ hg=>aac dV.lt hg) _ _ nY
   clear lW nV;go_wp2_with fail
   generalize yX:jF.alloc (.cells #[.int .i64 k11,.string t11,.int .i64 KM,.int .i64 Jp,.slice BN n11 c11] 24)=mW
   have r9:Below jF.heap.size jF mW:=by rw[<- yX];exact ae _ _
   have wZ:iA mW _ jF.heap.size _ (.int .i64 k11) (.string t11) (.int .i64 KM) (.int .i64 Jp) (.slice BN n11 c11):=⟨by rw[<- yX];exact ak.new jF _ _,aF.keeps (dB.of_below r9) _ _ nY⟩
   have IV:mW.heap.size=jF.heap.size+1:=by rw[<- yX];simp
   have h12:=h11.below r9;have je:=jq.below r9 jq.lt;have mY:=rA.trans (PM.of_below r9);obtain⟨v12,lJ⟩:∃vv,vv=v11:=⟨_,rfl⟩
   have nK:=ni;rw[<- lJ]at h12 mY nK;try rw[<- IV]
   clear lJ yX nY IV;refine(kI E hE v12 _ h12 nK.out [61]).mono ?_;rintro e uC ⟨rfl,v13,yR,qf,Ca⟩;have DJ:=kH yR;have lY:=Ca.blk h12 je;have FJ:=mY.trans Ca;replace wZ:=wZ.pm Ca h12
   clear yR Ca;have hcall:=HA.out.expr 1 v13 uC ZK q14 qf (by omega) (by omega) (by rw[DJ.out];exact HY.out);have ug:=kH hcall;clear hcall;go_wp2_with fail
   refine(ug.out).mono ?_;rintro e xh ⟨k14,t14,a14,z14,A14,n14,c14,rfl,Ar,v14,Lr,yE,UO⟩;try dsimp only at Lr Ar
   have Vl:=kH Lr;have vw:=UO.blk qf lY;have Qx:=FJ.trans UO;replace Ar:=aF.weak (Q:=fun g=>w.heap.size+1<=g) (fun g _ hg=>aac lY.lt hg) _ _ Ar
   replace wZ:=wZ.pm UO qf
   clear Lr UO;go_wp2_with fail
   generalize I1:xh.alloc (.cells #[.int .i64 k14,.string t14,.int .i64 a14,.int .i64 z14,.slice A14 n14 c14] 24)=Gm
   have Ao:Below xh.heap.size xh Gm:=by rw[<- I1];exact ae _ _
   have Xm:iA Gm _ xh.heap.size _ (.int .i64 k14) (.string t14) (.int .i64 a14) (.int .i64 z14) (.slice A14 n14 c14):=⟨by rw[<- I1];exact ak.new xh _ _,aF.keeps (dB.of_below Ao) _ _ Ar⟩
   have hs15:Gm.heap.size=xh.heap.size+1:=by rw[<- I1];simp
   have Eb:=yE.below Ao;have U7:=vw.below Ao vw.lt;have Xt:=Qx.trans (PM.of_below Ao);replace wZ:=wZ.below Ao
   obtain⟨v15,O5⟩:∃vv,vv=v14:=⟨_,rfl⟩
   have QC:=Vl;rw[<- O5]at Eb Xt QC;try rw[<- hs15]
   clear O5 I1 Ar hs15;refine(kI E hE v15 _ Eb QC.out [59]).mono ?_;rintro e w16 ⟨rfl,v16,hv16,h16,Pk⟩;have HV16:=kH hv16;have Du:=Pk.blk Eb U7;have Xr:=Xt.trans Pk;replace wZ:=wZ.pm Pk Eb
   replace Xm:=Xm.pm Pk Eb
   clear hv16 Pk;obtain⟨⟨Ub,T9,TY,TV,TT⟩,TR,TP,TM,TK,TI⟩:=wZ.1.five;have TG:=wZ.1.lt;obtain⟨⟨qaX14,qbX14,qcX14,qdX14,qeX14⟩,qgX14,qhX14,qiX14,qjX14,qkX14⟩:=Xm.1.five;have qlX14:=Xm.1.lt;go_wp2_with fail
   clear Ub T9 TY TV TT TR TP TM TK TI TG;clear qaX14 qbX14 qcX14 qdX14 qeX14 qgX14 qhX14 qiX14 qjX14 qkX14 qlX14;have LH:=kH (yo wZ.2 Xm.2 (by have:=Du.lt;omega));generalize hW17:w16.alloc (.cells #[.int .i64 k11,.string t11,.int .i64 KM,.int .i64 Jp,.slice BN n11 c11,.int .i64 k14,.string t14,.int .i64 a14,.int .i64 z14,.slice A14 n14 c14] 24)=VB at LH⊢
   have Y4:Below w16.heap.size w16 VB:=by rw[<- hW17];exact ae _ _
   have wV:=h16.below Y4;have Fq:=Du.below Y4 Du.lt;have KP:=Xr.trans (PM.of_below Y4);obtain⟨v17,EZ⟩:∃vv,vv=v16:=⟨_,rfl⟩
   have Jh:=HV16;rw[<- EZ]at wV KP Jh;clear EZ hW17;refine(dY E hE v17 _ wV v.st.k 13 [] (w.heap.size+1) (some ⟨w16.heap.size,0,none⟩) 2 2 [DR,ZK] LH.out).mono ?_;rintro e w18 ⟨rfl,Y0,hT18⟩;have h18:=wV.below Y0;have Fp:=Fq.below Y0 Fq.lt;obtain⟨⟨r0,r1,r2,r3,r4⟩,g0,g1,g2,g3,g4⟩:=Fp.five;go_wp2_with fail
   have bC:=kH (bO (v:=v) h18 (KP.trans (PM.of_below Y0)) rfl Fp hgl hT18);clear hT18;refine bodyPost_ret (v:=.agg #[.int .i64 13,.string (bI []),.int .i64 (bW E.l v17.st v.st.k [DR,ZK]),.int .i64 (v17.st.last:Int),.slice (some ⟨w16.heap.size,0,none⟩) 2 2]) (by simp[results,Tryz.results74,go_sem,r0,r1,r2,r3,r4]) rfl ?_;exact Eq.mp (congrArg (fun r=>bK E w v r _ _) (show(aI E.l v17.st v.st.k 13 [] [DR,ZK],v17.st)=_ by rw[aV.out,Jh.out])) bC.out
 have UX:((k:Int)==0)=false:=by simp;omega
 have UU:(k==0)=false:=by simp[hk0]
 have hsk:pU E.bs E.l f v.st=some (t,q):=by
  have:=HR.out;rw[if_neg (by rw[HK.out];simp[hk0]),if_neg (by rw[HK.out];exact hk0)]at this;split at this
  ·cases this
  ·rename_i x p h
   simp at this;rw[h,this.1,this.2]
 have SA:=kH hsk;clear hsk hk0 HR;go_wp2_with fail
 refine(vN E hE v8 _ h8 ic.out HK.out).mono ?_;rintro e w9 ⟨rfl,v9,iU,h9,gH⟩;have kL:=kH iU;have fA:=gH.blk h8 eB;have P9:=P8.trans gH;clear iU gH;have hcall:=Q4 E hE v9 w9 h9 f (t,q) (by rw[kL.out];exact SA.out);have HC:=kH hcall;clear hcall;go_wp2_with fail
 refine(HC.out).mono ?_;rintro e bJ ⟨k10,t10,Ba,zP,o5,n10,c10,rfl,mQ,v10,gL,h10,fw⟩;try dsimp only at gL mQ
 have jf:=kH gL;have dV:=fw.blk h9 fA;have jZ:=P9.trans fw;replace mQ:=aF.weak (Q:=fun g=>w.heap.size+1<=g) (fun g _ hg=>aac fA.lt hg) _ _ mQ
 clear gL fw;have aV:=trivial;obtain⟨⟨r0,r1,r2,r3,r4⟩,g0,g1,g2,g3,g4⟩:=dV.five;go_wp2_with fail
 have bC:=kH (bO (v:=v) h10 jZ rfl dV hgl mQ);clear mQ;rw[jf.out]at bC;refine bodyPost_ret (v:=.agg #[.int .i64 k10,.string t10,.int .i64 Ba,.int .i64 zP,.slice o5 n10 c10]) (by simp[results,Tryz.results74,go_sem,r0,r1,r2,r3,r4]) rfl ?_;try rw[aV.out]
 exact bC.out
end Go.Proofs.YtoepemlnlpamlaaGreat
