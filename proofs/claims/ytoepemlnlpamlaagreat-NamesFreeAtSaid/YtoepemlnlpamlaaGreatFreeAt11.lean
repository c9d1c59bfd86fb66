/- The law NamesFreeAt holds: for every text and every number the law returns true, and its arguments read as before. No condition. Part 11: Stmt. -/
import Derived.Test.YtoepemlnlpamlaaGreatFreeAt10
namespace Go.Proofs.YtoepemlnlpamlaaGreat
set_option maxRecDepth 100000
set_option maxHeartbeats 4000000
open Go.RowKit
theorem optional_to (E:PE) (hE:E.Ok) (v:PV) (w:World) (hpw:PW w E v) {p:PS} (hst:v.st=p):Calls Tryz.prog 130 #[.pointer (some ⟨E.gp,0,none⟩)] w (TreeRes E w v (optM E.bs E.l p)):=by
 subst hst;exact optional_any E hE v w hpw
theorem stmt_any (E:PE) (hE:E.Ok) (f:Nat) (IH:∀ f',f'≤f→AnsW E f') (v:PV) (w:World) (t:Tree) (q:PS) (hpw:PW w E v) (hr:parM E.bs E.l (f+1) .stmt v.st=some ([t],q)):Calls Tryz.prog 74 #[.pointer (some ⟨E.gp,0,none⟩)] w (TreeRes E w v (t,q)):=by
 rw[parM]at hr;have HR:=kH hr;have HA:=kH (IH f (Nat.le_refl _));clear hr IH;have hgl:=hpw.blk.lt;have hk2:w.cell? ⟨E.gp,2,none⟩=some (.int .i64 (v.st.k:Int)):=hpw.blk.cell 2
 obtain⟨k,hk⟩:∃ x,kindM E.l v.st=x:=⟨_,rfl⟩
 have HK:=kH hk
 obtain⟨b1,hb1⟩:∃ x,isM E.bs E.l v.st [118,97,114] = x:=⟨_,rfl⟩
 have HB1:=kH hb1
 obtain⟨b2,hb2⟩:∃ x,isM E.bs E.l v.st [105,102] = x:=⟨_,rfl⟩
 have HB2:=kH hb2
 obtain⟨b3,hb3⟩:∃ x,isM E.bs E.l v.st [119,104,105,108,101] = x:=⟨_,rfl⟩
 have HB3:=kH hb3
 obtain⟨b4,hb4⟩:∃ x,isM E.bs E.l v.st [102,111,114] = x:=⟨_,rfl⟩
 have HB4:=kH hb4
 obtain⟨b5,hb5⟩:∃ x,isM E.bs E.l v.st [114,101,116,117,114,110] = x:=⟨_,rfl⟩
 have HB5:=kH hb5
 obtain⟨b6,hb6⟩:∃ x,isM E.bs E.l v.st [97,115,115,101,114,116] = x:=⟨_,rfl⟩
 have HB6:=kH hb6;clear hk hb1 hb2 hb3 hb4 hb5 hb6
 go_enter Tryz.func74,Tryz.ntmps74
 go_wp2_with fail
 generalize hW1:w.alloc (.cells #[.int .i64 0,.string ⟨#[]⟩,.int .i64 0,.int .i64 0,.slice none 0 0] 24)=W1
 have hb1:Below w.heap.size w W1:=by rw[← hW1];exact below_alloc _ _
 have hR1:Blk W1 w.heap.size 24 #[.int .i64 0,.string ⟨#[]⟩,.int .i64 0,.int .i64 0,.slice none 0 0]:=by rw[← hW1];exact Blk.new w _ _
 have hs1:W1.heap.size=w.heap.size+1:=by rw[← hW1];simp
 have hm1:=PM.of_below (E:=E) (v:=v) hb1;have h1:=hpw.below hb1;have P1:=hm1;have HS1:=kH hs1;have HM1:=kH hm1;clear hW1 hs1 hm1 hb1;clear hk2;have HV1:Hid (v.st=v.st):=kH rfl
 cases b1
 case true =>
  obtain⟨x7,q7,hx,hrq⟩:∃ x q1,parM E.bs E.l f (.expr 1) (expectM E.bs E.l (optM E.bs E.l (nameP E.l (readM E.l v.st))).2 [61])=some ([x],q1)∧(t,q)=(nodeM E.l (expectM E.bs E.l q1 [59]) v.st.k 12 (nameT E.bs E.l (readM E.l v.st)) [(optM E.bs E.l (nameP E.l (readM E.l v.st))).1,x],expectM E.bs E.l q1 [59]):=by
   have:=HR.out;rw[HB1.out,if_pos rfl]at this;obtain⟨x,p,h1,h2⟩:=one_some this;simp at h2;exact⟨x,p,h1,by rw[← h2.1,← h2.2]⟩
  have HX:=kH hx;have HRES:=kH hrq;clear hx hrq HR;refine(accept_yes E hE v _ h1 HV1.out [118,97,114] HB1.out).mono ?_;rintro e w2 ⟨rfl,v2,hv2,h2,hm2⟩;have HV2:=kH hv2;have hR2:=hm2.blk h1 hR1;have P2:=P1.trans hm2;clear hv2 hm2
  go_wp2_with fail
  refine(name_to E hE v2 _ h2 HV2.out).mono ?_;rintro e w3 ⟨rfl,v3,hv3,h3,hm3⟩;have HV3:=kH hv3;have hR3:=hm3.blk h2 hR2;have P3:=P2.trans hm3;clear hv3 hm3
  go_wp2_with fail
  refine(optional_to E hE v3 _ h3 HV3.out).mono ?_;rintro e w4 ⟨k4,t4,a4,z4,A4,n4,c4,rfl,hT4,v4,hv4,h4,hm4⟩
  try dsimp only at hv4 hT4
  have HV4:=kH hv4;have hR4:=hm4.blk h3 hR3;have P4:=P3.trans hm4
  replace hT4:=TreeOwn.weak (Q:=fun g=>w.heap.size+1≤g) (fun g _ hg=>Nat.le_trans hR3.lt hg) _ _ hT4
  clear hv4 hm4
  go_wp2_with fail
  generalize hW5:w4.alloc (.cells #[.int .i64 k4,.string t4,.int .i64 a4,.int .i64 z4,.slice A4 n4 c4] 24)=w5
  have hb5:Below w4.heap.size w4 w5:=by rw[← hW5];exact below_alloc _ _
  have X4:Boxed w5 _ w4.heap.size _ (.int .i64 k4) (.string t4) (.int .i64 a4) (.int .i64 z4) (.slice A4 n4 c4):=⟨by rw[← hW5];exact Blk.new w4 _ _,TreeOwn.keeps (KeepsN.of_below hb5) _ _ hT4⟩
  have hs5:w5.heap.size=w4.heap.size+1:=by rw[← hW5];simp
  have h5:=h4.below hb5;have hR5:=hR4.below hb5 hR4.lt;have P5:=P4.trans (PM.of_below hb5)
  obtain⟨v5,hv5⟩:∃ vv,vv=v4:=⟨_,rfl⟩
  have HV5:=HV4;rw[← hv5]at h5 P5 HV5
  try rw[← hs5]
  clear hv5 hW5 hT4 hs5;refine(expect_to E hE v5 _ h5 HV5.out [61]).mono ?_;rintro e w6 ⟨rfl,v6,hv6,h6,hm6⟩;have HV6:=kH hv6;have hR6:=hm6.blk h5 hR5;have P6:=P5.trans hm6
  replace X4:=X4.pm hm6 h5
  clear hv6 hm6;have hcall:=HA.out.expr 1 v6 w6 x7 q7 h6 (by omega) (by omega) (by rw[HV6.out];exact HX.out);have HC:=kH hcall;clear hcall
  go_wp2_with fail
  refine(HC.out).mono ?_;rintro e w7 ⟨k7,t7,a7,z7,A7,n7,c7,rfl,hT7,v7,hv7,h7,hm7⟩
  try dsimp only at hv7 hT7
  have HV7:=kH hv7;have hR7:=hm7.blk h6 hR6;have P7:=P6.trans hm7
  replace hT7:=TreeOwn.weak (Q:=fun g=>w.heap.size+1≤g) (fun g _ hg=>Nat.le_trans hR6.lt hg) _ _ hT7
  replace X4:=X4.pm hm7 h6
  clear hv7 hm7
  go_wp2_with fail
  generalize hW8:w7.alloc (.cells #[.int .i64 k7,.string t7,.int .i64 a7,.int .i64 z7,.slice A7 n7 c7] 24)=w8
  have hb8:Below w7.heap.size w7 w8:=by rw[← hW8];exact below_alloc _ _
  have X7:Boxed w8 _ w7.heap.size _ (.int .i64 k7) (.string t7) (.int .i64 a7) (.int .i64 z7) (.slice A7 n7 c7):=⟨by rw[← hW8];exact Blk.new w7 _ _,TreeOwn.keeps (KeepsN.of_below hb8) _ _ hT7⟩
  have hs8:w8.heap.size=w7.heap.size+1:=by rw[← hW8];simp
  have h8:=h7.below hb8;have hR8:=hR7.below hb8 hR7.lt;have P8:=P7.trans (PM.of_below hb8)
  replace X4:=X4.below hb8
  obtain⟨v8,hv8⟩:∃ vv,vv=v7:=⟨_,rfl⟩
  have HV8:=HV7;rw[← hv8]at h8 P8 HV8
  try rw[← hs8]
  clear hv8 hW8 hT7 hs8;refine(expect_to E hE v8 _ h8 HV8.out [59]).mono ?_;rintro e w9 ⟨rfl,v9,hv9,h9,hm9⟩;have HV9:=kH hv9;have hR9:=hm9.blk h8 hR8;have P9:=P8.trans hm9
  replace X4:=X4.pm hm9 h8
  replace X7:=X7.pm hm9 h8
  clear hv9 hm9;obtain⟨⟨qaX4,qbX4,qcX4,qdX4,qeX4⟩,qgX4,qhX4,qiX4,qjX4,qkX4⟩:=X4.1.five;have qlX4:=X4.1.lt;obtain⟨⟨qaX7,qbX7,qcX7,qdX7,qeX7⟩,qgX7,qhX7,qiX7,qjX7,qkX7⟩:=X7.1.five;have qlX7:=X7.1.lt
  go_wp2_with fail
  clear qaX4 qbX4 qcX4 qdX4 qeX4 qgX4 qhX4 qiX4 qjX4 qkX4 qlX4;clear qaX7 qbX7 qcX7 qdX7 qeX7 qgX7 qhX7 qiX7 qjX7 qkX7 qlX7;have HK10:=kH (kids_lit2 X4.2 X7.2 (by have:=hR9.lt;omega))
  generalize hW10:w9.alloc (.cells #[.int .i64 k4,.string t4,.int .i64 a4,.int .i64 z4,.slice A4 n4 c4,.int .i64 k7,.string t7,.int .i64 a7,.int .i64 z7,.slice A7 n7 c7] 24)=w10 at HK10 ⊢
  have hb10:Below w9.heap.size w9 w10:=by rw[← hW10];exact below_alloc _ _
  have h10:=h9.below hb10;have hR10:=hR9.below hb10 hR9.lt;have P10:=P9.trans (PM.of_below hb10)
  obtain⟨v10,hv10⟩:∃ vv,vv=v9:=⟨_,rfl⟩
  have HV10:=HV9;rw[← hv10]at h10 P10 HV10;clear hv10 hW10;refine(nodek_any E hE v10 _ h10 v.st.k 12 (nameT E.bs E.l (readM E.l v.st)) (w.heap.size+1) (some ⟨w9.heap.size,0,none⟩) 2 2 [(optM E.bs E.l (nameP E.l (readM E.l v.st))).1,x7] HK10.out).mono ?_;rintro e w11 ⟨rfl,hb11,hT11⟩;have h11:=h10.below hb11;have hR11:=hR10.below hb11 hR10.lt;obtain⟨⟨r0,r1,r2,r3,r4⟩,g0,g1,g2,g3,g4⟩:=hR11.five
  go_wp2_with fail
  have HEND:=kH (tree_end (v:=v) h11 (P10.trans (PM.of_below hb11)) rfl hR11 hgl hT11);clear hT11;refine bodyPost_ret (v:=.agg #[.int .i64 12,.string (mkS (nameT E.bs E.l (readM E.l v.st))),.int .i64 (nodeAt E.l v10.st v.st.k [(optM E.bs E.l (nameP E.l (readM E.l v.st))).1,x7]),.int .i64 (v10.st.last:Int),.slice (some ⟨w9.heap.size,0,none⟩) 2 2]) (by simp[results,Tryz.results74,go_sem,r0,r1,r2,r3,r4]) rfl ?_;exact Eq.mp (congrArg (fun r=>TreeRes E w v r _ _) (show (nodeM E.l v10.st v.st.k 12 (nameT E.bs E.l (readM E.l v.st)) [(optM E.bs E.l (nameP E.l (readM E.l v.st))).1,x7],v10.st)=_ by rw[HRES.out,HV10.out])) HEND.out
 have hR2:=HR.out;rw[HB1.out,if_neg (by simp)]at hR2
 replace HR:=kH hR2
 clear hR2;refine(accept_no E hE v _ h1 HV1.out [118,97,114] HB1.out).mono ?_;rintro e w2 ⟨rfl,v2,hv2,h2,hm2⟩;have HV2:=kH hv2;have hR2:=hm2.blk h1 hR1;have P2:=P1.trans hm2;clear hv2 hm2
 go_wp2_with fail
 refine(is_to E hE v2 _ h2 HV2.out [105,102] HB2.out).mono ?_;rintro e w3 ⟨rfl,v3,hv3,h3,hm3⟩;have HV3:=kH hv3;have hR3:=hm3.blk h2 hR2;have P3:=P2.trans hm3;clear hv3 hm3
 cases b2
 case true =>
  have hR2:=HR.out;rw[HB2.out,if_pos rfl]at hR2;have hcall:=HA.out.branch v3 w3 t q h3 (by rw[HV3.out];exact is_not5 HB2.out) (by rw[HV3.out];exact hR2);have HC:=kH hcall;clear hcall hR2
  go_wp2_with fail
  refine(HC.out).mono ?_;rintro e w4 ⟨k4,t4,a4,z4,A4,n4,c4,rfl,hT4,v4,hv4,h4,hm4⟩
  try dsimp only at hv4 hT4
  have HV4:=kH hv4;have hR4:=hm4.blk h3 hR3;have P4:=P3.trans hm4
  replace hT4:=TreeOwn.weak (Q:=fun g=>w.heap.size+1≤g) (fun g _ hg=>Nat.le_trans hR3.lt hg) _ _ hT4
  clear hv4 hm4;have HRES:=trivial;obtain⟨⟨r0,r1,r2,r3,r4⟩,g0,g1,g2,g3,g4⟩:=hR4.five
  go_wp2_with fail
  have HEND:=kH (tree_end (v:=v) h4 P4 rfl hR4 hgl hT4);clear hT4;rw[HV4.out]at HEND;refine bodyPost_ret (v:=.agg #[.int .i64 k4,.string t4,.int .i64 a4,.int .i64 z4,.slice A4 n4 c4]) (by simp[results,Tryz.results74,go_sem,r0,r1,r2,r3,r4]) rfl ?_
  try rw[HRES.out]
  exact HEND.out
 have hR2:=HR.out;rw[HB2.out,if_neg (by simp)]at hR2
 replace HR:=kH hR2
 clear hR2
 go_wp2_with fail
 cases b3
 case true =>
  obtain⟨x4,q4,x6,q6,hx,hy,hrq⟩:∃ x q1 y q2,parM E.bs E.l f (.expr 1) (readM E.l v.st)=some ([x],q1)∧parM E.bs E.l f .block q1=some ([y],q2)∧(t,q)=(nodeM E.l q2 v.st.k 15 [] [x,y],q2):=by
   have:=HR.out;rw[HB3.out,if_pos rfl]at this;obtain⟨x,p,h1,h2⟩:=one_some this;obtain⟨y,p2,h3,h4⟩:=one_some h2;simp at h4;exact⟨x,p,y,p2,h1,h3,by rw[← h4.1,← h4.2]⟩
  have HX:=kH hx;have HY:=kH hy;have HRES:=kH hrq;clear hx hy hrq HR;refine(accept_yes E hE v3 _ h3 HV3.out [119,104,105,108,101] HB3.out).mono ?_;rintro e w4 ⟨rfl,v4,hv4,h4,hm4⟩;have HV4:=kH hv4;have hR4:=hm4.blk h3 hR3;have P4:=P3.trans hm4;clear hv4 hm4;have hcall:=HA.out.expr 1 v4 w4 x4 q4 h4 (by omega) (by omega) (by rw[HV4.out];exact HX.out);have HC:=kH hcall;clear hcall
  go_wp2_with fail
  refine(HC.out).mono ?_;rintro e w5 ⟨k5,t5,a5,z5,A5,n5,c5,rfl,hT5,v5,hv5,h5,hm5⟩
  try dsimp only at hv5 hT5
  have HV5:=kH hv5;have hR5:=hm5.blk h4 hR4;have P5:=P4.trans hm5
  replace hT5:=TreeOwn.weak (Q:=fun g=>w.heap.size+1≤g) (fun g _ hg=>Nat.le_trans hR4.lt hg) _ _ hT5
  clear hv5 hm5
  go_wp2_with fail
  generalize hW6:w5.alloc (.cells #[.int .i64 k5,.string t5,.int .i64 a5,.int .i64 z5,.slice A5 n5 c5] 24)=w6
  have hb6:Below w5.heap.size w5 w6:=by rw[← hW6];exact below_alloc _ _
  have X5:Boxed w6 _ w5.heap.size _ (.int .i64 k5) (.string t5) (.int .i64 a5) (.int .i64 z5) (.slice A5 n5 c5):=⟨by rw[← hW6];exact Blk.new w5 _ _,TreeOwn.keeps (KeepsN.of_below hb6) _ _ hT5⟩
  have hs6:w6.heap.size=w5.heap.size+1:=by rw[← hW6];simp
  have h6:=h5.below hb6;have hR6:=hR5.below hb6 hR5.lt;have P6:=P5.trans (PM.of_below hb6)
  obtain⟨v6,hv6⟩:∃ vv,vv=v5:=⟨_,rfl⟩
  have HV6:=HV5;rw[← hv6]at h6 P6 HV6
  try rw[← hs6]
  clear hv6 hW6 hT5 hs6;have hcall:=HA.out.block v6 w6 x6 q6 h6 (by rw[HV6.out];exact HY.out);have HC2:=kH hcall;clear hcall;refine(HC2.out).mono ?_;rintro e w7 ⟨k7,t7,a7,z7,A7,n7,c7,rfl,hT7,v7,hv7,h7,hm7⟩
  try dsimp only at hv7 hT7
  have HV7:=kH hv7;have hR7:=hm7.blk h6 hR6;have P7:=P6.trans hm7
  replace hT7:=TreeOwn.weak (Q:=fun g=>w.heap.size+1≤g) (fun g _ hg=>Nat.le_trans hR6.lt hg) _ _ hT7
  replace X5:=X5.pm hm7 h6
  clear hv7 hm7;obtain⟨⟨qaX5,qbX5,qcX5,qdX5,qeX5⟩,qgX5,qhX5,qiX5,qjX5,qkX5⟩:=X5.1.five;have qlX5:=X5.1.lt
  go_wp2_with fail
  clear qaX5 qbX5 qcX5 qdX5 qeX5 qgX5 qhX5 qiX5 qjX5 qkX5 qlX5
  generalize hW8:w7.alloc (.cells #[.int .i64 k7,.string t7,.int .i64 a7,.int .i64 z7,.slice A7 n7 c7] 24)=w8
  have hb8:Below w7.heap.size w7 w8:=by rw[← hW8];exact below_alloc _ _
  have X7:Boxed w8 _ w7.heap.size _ (.int .i64 k7) (.string t7) (.int .i64 a7) (.int .i64 z7) (.slice A7 n7 c7):=⟨by rw[← hW8];exact Blk.new w7 _ _,TreeOwn.keeps (KeepsN.of_below hb8) _ _ hT7⟩
  have hs8:w8.heap.size=w7.heap.size+1:=by rw[← hW8];simp
  have h8:=h7.below hb8;have hR8:=hR7.below hb8 hR7.lt;have P8:=P7.trans (PM.of_below hb8)
  replace X5:=X5.below hb8
  obtain⟨v8,hv8⟩:∃ vv,vv=v7:=⟨_,rfl⟩
  have HV8:=HV7;rw[← hv8]at h8 P8 HV8
  try rw[← hs8]
  clear hv8 hW8 hT7 hs8;have HK9:=kH (kids_lit2 X5.2 X7.2 (by have:=hR8.lt;omega))
  generalize hW9:w8.alloc (.cells #[.int .i64 k5,.string t5,.int .i64 a5,.int .i64 z5,.slice A5 n5 c5,.int .i64 k7,.string t7,.int .i64 a7,.int .i64 z7,.slice A7 n7 c7] 24)=w9 at HK9 ⊢
  have hb9:Below w8.heap.size w8 w9:=by rw[← hW9];exact below_alloc _ _
  have h9:=h8.below hb9;have hR9:=hR8.below hb9 hR8.lt;have P9:=P8.trans (PM.of_below hb9)
  obtain⟨v9,hv9⟩:∃ vv,vv=v8:=⟨_,rfl⟩
  have HV9:=HV8;rw[← hv9]at h9 P9 HV9;clear hv9 hW9;refine(nodek_any E hE v9 _ h9 v.st.k 15 [] (w.heap.size+1) (some ⟨w8.heap.size,0,none⟩) 2 2 [x4,x6] HK9.out).mono ?_;rintro e w10 ⟨rfl,hb10,hT10⟩;have h10:=h9.below hb10;have hR10:=hR9.below hb10 hR9.lt;obtain⟨⟨r0,r1,r2,r3,r4⟩,g0,g1,g2,g3,g4⟩:=hR10.five
  go_wp2_with fail
  have HEND:=kH (tree_end (v:=v) h10 (P9.trans (PM.of_below hb10)) rfl hR10 hgl hT10);clear hT10;refine bodyPost_ret (v:=.agg #[.int .i64 15,.string (mkS []),.int .i64 (nodeAt E.l v9.st v.st.k [x4,x6]),.int .i64 (v9.st.last:Int),.slice (some ⟨w8.heap.size,0,none⟩) 2 2]) (by simp[results,Tryz.results74,go_sem,r0,r1,r2,r3,r4]) rfl ?_;exact Eq.mp (congrArg (fun r=>TreeRes E w v r _ _) (show (nodeM E.l v9.st v.st.k 15 [] [x4,x6],v9.st)=_ by rw[HRES.out,HV9.out])) HEND.out
 have hR2:=HR.out;rw[HB3.out,if_neg (by simp)]at hR2
 replace HR:=kH hR2
 clear hR2;refine(accept_no E hE v3 _ h3 HV3.out [119,104,105,108,101] HB3.out).mono ?_;rintro e w4 ⟨rfl,v4,hv4,h4,hm4⟩;have HV4:=kH hv4;have hR4:=hm4.blk h3 hR3;have P4:=P3.trans hm4;clear hv4 hm4
 go_wp2_with fail
 cases b4
 case true =>
  obtain⟨x8,q8,x11,q11,x13,q13,hx,hy,hz,hrq⟩:∃ x q1 y q2 z q3,parM E.bs E.l f (.expr 1) (expectM E.bs E.l (nameP E.l (readM E.l v.st)) [61])=some ([x],q1)∧parM E.bs E.l f (.expr 1) (expectM E.bs E.l q1 [116,111])=some ([y],q2)∧parM E.bs E.l f .block q2=some ([z],q3)∧(t,q)=(nodeM E.l q3 v.st.k 16 (nameT E.bs E.l (readM E.l v.st)) [x,y,z],q3):=by
   have:=HR.out;rw[HB4.out,if_pos rfl]at this;obtain⟨x,p,h1,h2⟩:=one_some this;obtain⟨y,p2,h3,h4⟩:=one_some h2;obtain⟨z,p3,h5,h6⟩:=one_some h4;simp at h6;exact⟨x,p,y,p2,z,p3,h1,h3,h5,by rw[← h6.1,← h6.2]⟩
  have HX:=kH hx;have HY:=kH hy;have HZ:=kH hz;have HRES:=kH hrq;clear hx hy hz hrq HR;refine(accept_yes E hE v4 _ h4 HV4.out [102,111,114] HB4.out).mono ?_;rintro e w5 ⟨rfl,v5,hv5,h5,hm5⟩;have HV5:=kH hv5;have hR5:=hm5.blk h4 hR4;have P5:=P4.trans hm5;clear hv5 hm5
  go_wp2_with fail
  refine(name_to E hE v5 _ h5 HV5.out).mono ?_;rintro e w6 ⟨rfl,v6,hv6,h6,hm6⟩;have HV6:=kH hv6;have hR6:=hm6.blk h5 hR5;have P6:=P5.trans hm6;clear hv6 hm6
  go_wp2_with fail
  refine(expect_to E hE v6 _ h6 HV6.out [61]).mono ?_;rintro e w7 ⟨rfl,v7,hv7,h7,hm7⟩;have HV7:=kH hv7;have hR7:=hm7.blk h6 hR6;have P7:=P6.trans hm7;clear hv7 hm7;have hcall:=HA.out.expr 1 v7 w7 x8 q8 h7 (by omega) (by omega) (by rw[HV7.out];exact HX.out);have HC:=kH hcall;clear hcall
  go_wp2_with fail
  refine(HC.out).mono ?_;rintro e w8 ⟨k8,t8,a8,z8,A8,n8,c8,rfl,hT8,v8,hv8,h8,hm8⟩
  try dsimp only at hv8 hT8
  have HV8:=kH hv8;have hR8:=hm8.blk h7 hR7;have P8:=P7.trans hm8
  replace hT8:=TreeOwn.weak (Q:=fun g=>w.heap.size+1≤g) (fun g _ hg=>Nat.le_trans hR7.lt hg) _ _ hT8
  clear hv8 hm8
  go_wp2_with fail
  generalize hW9:w8.alloc (.cells #[.int .i64 k8,.string t8,.int .i64 a8,.int .i64 z8,.slice A8 n8 c8] 24)=w9
  have hb9:Below w8.heap.size w8 w9:=by rw[← hW9];exact below_alloc _ _
  have X8:Boxed w9 _ w8.heap.size _ (.int .i64 k8) (.string t8) (.int .i64 a8) (.int .i64 z8) (.slice A8 n8 c8):=⟨by rw[← hW9];exact Blk.new w8 _ _,TreeOwn.keeps (KeepsN.of_below hb9) _ _ hT8⟩
  have hs9:w9.heap.size=w8.heap.size+1:=by rw[← hW9];simp
  have h9:=h8.below hb9;have hR9:=hR8.below hb9 hR8.lt;have P9:=P8.trans (PM.of_below hb9)
  obtain⟨v9,hv9⟩:∃ vv,vv=v8:=⟨_,rfl⟩
  have HV9:=HV8;rw[← hv9]at h9 P9 HV9
  try rw[← hs9]
  clear hv9 hW9 hT8 hs9;refine(expect_to E hE v9 _ h9 HV9.out [116,111]).mono ?_;rintro e w10 ⟨rfl,v10,hv10,h10,hm10⟩;have HV10:=kH hv10;have hR10:=hm10.blk h9 hR9;have P10:=P9.trans hm10
  replace X8:=X8.pm hm10 h9
  clear hv10 hm10;have hcall:=HA.out.expr 1 v10 w10 x11 q11 h10 (by omega) (by omega) (by rw[HV10.out];exact HY.out);have HC2:=kH hcall;clear hcall
  go_wp2_with fail
  refine(HC2.out).mono ?_;rintro e w11 ⟨k11,t11,a11,z11,A11,n11,c11,rfl,hT11,v11,hv11,h11,hm11⟩
  try dsimp only at hv11 hT11
  have HV11:=kH hv11;have hR11:=hm11.blk h10 hR10;have P11:=P10.trans hm11
  replace hT11:=TreeOwn.weak (Q:=fun g=>w.heap.size+1≤g) (fun g _ hg=>Nat.le_trans hR10.lt hg) _ _ hT11
  replace X8:=X8.pm hm11 h10
  clear hv11 hm11
  go_wp2_with fail
  generalize hW12:w11.alloc (.cells #[.int .i64 k11,.string t11,.int .i64 a11,.int .i64 z11,.slice A11 n11 c11] 24)=w12
  have hb12:Below w11.heap.size w11 w12:=by rw[← hW12];exact below_alloc _ _
  have X11:Boxed w12 _ w11.heap.size _ (.int .i64 k11) (.string t11) (.int .i64 a11) (.int .i64 z11) (.slice A11 n11 c11):=⟨by rw[← hW12];exact Blk.new w11 _ _,TreeOwn.keeps (KeepsN.of_below hb12) _ _ hT11⟩
  have hs12:w12.heap.size=w11.heap.size+1:=by rw[← hW12];simp
  have h12:=h11.below hb12;have hR12:=hR11.below hb12 hR11.lt;have P12:=P11.trans (PM.of_below hb12)
  replace X8:=X8.below hb12
  obtain⟨v12,hv12⟩:∃ vv,vv=v11:=⟨_,rfl⟩
  have HV12:=HV11;rw[← hv12]at h12 P12 HV12
  try rw[← hs12]
  clear hv12 hW12 hT11 hs12;have hcall:=HA.out.block v12 w12 x13 q13 h12 (by rw[HV12.out];exact HZ.out);have HC3:=kH hcall;clear hcall;refine(HC3.out).mono ?_;rintro e w13 ⟨k13,t13,a13,z13,A13,n13,c13,rfl,hT13,v13,hv13,h13,hm13⟩
  try dsimp only at hv13 hT13
  have HV13:=kH hv13;have hR13:=hm13.blk h12 hR12;have P13:=P12.trans hm13
  replace hT13:=TreeOwn.weak (Q:=fun g=>w.heap.size+1≤g) (fun g _ hg=>Nat.le_trans hR12.lt hg) _ _ hT13
  replace X8:=X8.pm hm13 h12
  replace X11:=X11.pm hm13 h12
  clear hv13 hm13;obtain⟨⟨qaX8,qbX8,qcX8,qdX8,qeX8⟩,qgX8,qhX8,qiX8,qjX8,qkX8⟩:=X8.1.five;have qlX8:=X8.1.lt;obtain⟨⟨qaX11,qbX11,qcX11,qdX11,qeX11⟩,qgX11,qhX11,qiX11,qjX11,qkX11⟩:=X11.1.five;have qlX11:=X11.1.lt
  go_wp2_with fail
  clear qaX8 qbX8 qcX8 qdX8 qeX8 qgX8 qhX8 qiX8 qjX8 qkX8 qlX8;clear qaX11 qbX11 qcX11 qdX11 qeX11 qgX11 qhX11 qiX11 qjX11 qkX11 qlX11
  generalize hW14:w13.alloc (.cells #[.int .i64 k13,.string t13,.int .i64 a13,.int .i64 z13,.slice A13 n13 c13] 24)=w14
  have hb14:Below w13.heap.size w13 w14:=by rw[← hW14];exact below_alloc _ _
  have X13:Boxed w14 _ w13.heap.size _ (.int .i64 k13) (.string t13) (.int .i64 a13) (.int .i64 z13) (.slice A13 n13 c13):=⟨by rw[← hW14];exact Blk.new w13 _ _,TreeOwn.keeps (KeepsN.of_below hb14) _ _ hT13⟩
  have hs14:w14.heap.size=w13.heap.size+1:=by rw[← hW14];simp
  have h14:=h13.below hb14;have hR14:=hR13.below hb14 hR13.lt;have P14:=P13.trans (PM.of_below hb14)
  replace X8:=X8.below hb14
  replace X11:=X11.below hb14
  obtain⟨v14,hv14⟩:∃ vv,vv=v13:=⟨_,rfl⟩
  have HV14:=HV13;rw[← hv14]at h14 P14 HV14
  try rw[← hs14]
  clear hv14 hW14 hT13 hs14;have HK15:=kH (kids_lit3 X8.2 X11.2 X13.2 (by have:=hR14.lt;omega))
  generalize hW15:w14.alloc (.cells #[.int .i64 k8,.string t8,.int .i64 a8,.int .i64 z8,.slice A8 n8 c8,.int .i64 k11,.string t11,.int .i64 a11,.int .i64 z11,.slice A11 n11 c11,.int .i64 k13,.string t13,.int .i64 a13,.int .i64 z13,.slice A13 n13 c13] 24)=w15 at HK15 ⊢
  have hb15:Below w14.heap.size w14 w15:=by rw[← hW15];exact below_alloc _ _
  have h15:=h14.below hb15;have hR15:=hR14.below hb15 hR14.lt;have P15:=P14.trans (PM.of_below hb15)
  obtain⟨v15,hv15⟩:∃ vv,vv=v14:=⟨_,rfl⟩
  have HV15:=HV14;rw[← hv15]at h15 P15 HV15;clear hv15 hW15;refine(nodek_any E hE v15 _ h15 v.st.k 16 (nameT E.bs E.l (readM E.l v.st)) (w.heap.size+1) (some ⟨w14.heap.size,0,none⟩) 3 3 [x8,x11,x13] HK15.out).mono ?_;rintro e w16 ⟨rfl,hb16,hT16⟩;have h16:=h15.below hb16;have hR16:=hR15.below hb16 hR15.lt;obtain⟨⟨r0,r1,r2,r3,r4⟩,g0,g1,g2,g3,g4⟩:=hR16.five
  go_wp2_with fail
  have HEND:=kH (tree_end (v:=v) h16 (P15.trans (PM.of_below hb16)) rfl hR16 hgl hT16);clear hT16;refine bodyPost_ret (v:=.agg #[.int .i64 16,.string (mkS (nameT E.bs E.l (readM E.l v.st))),.int .i64 (nodeAt E.l v15.st v.st.k [x8,x11,x13]),.int .i64 (v15.st.last:Int),.slice (some ⟨w14.heap.size,0,none⟩) 3 3]) (by simp[results,Tryz.results74,go_sem,r0,r1,r2,r3,r4]) rfl ?_;exact Eq.mp (congrArg (fun r=>TreeRes E w v r _ _) (show (nodeM E.l v15.st v.st.k 16 (nameT E.bs E.l (readM E.l v.st)) [x8,x11,x13],v15.st)=_ by rw[HRES.out,HV15.out])) HEND.out
 have hR2:=HR.out;rw[HB4.out,if_neg (by simp)]at hR2
 replace HR:=kH hR2
 clear hR2;refine(accept_no E hE v4 _ h4 HV4.out [102,111,114] HB4.out).mono ?_;rintro e w5 ⟨rfl,v5,hv5,h5,hm5⟩;have HV5:=kH hv5;have hR5:=hm5.blk h4 hR4;have P5:=P4.trans hm5;clear hv5 hm5
 go_wp2_with fail
 cases b5
 case true =>
  have hR2:=HR.out;rw[HB5.out,if_pos rfl]at hR2
  obtain⟨b7,hb7⟩:∃ x,primM E.bs E.l (readM E.l v.st)=x:=⟨_,rfl⟩
  have HB7:=kH hb7
  obtain⟨b8,hb8⟩:∃ x,isM E.bs E.l (readM E.l v.st) [110,111,116] = x:=⟨_,rfl⟩
  have HB8:=kH hb8
  obtain⟨b9,hb9⟩:∃ x,isM E.bs E.l (readM E.l v.st) [45] = x:=⟨_,rfl⟩
  have HB9:=kH hb9
  replace HR:=kH hR2
  clear hR2 hb7 hb8 hb9;refine(accept_yes E hE v5 _ h5 HV5.out [114,101,116,117,114,110] HB5.out).mono ?_;rintro e w6 ⟨rfl,v6,hv6,h6,hm6⟩;have HV6:=kH hv6;have hR6:=hm6.blk h5 hR5;have P6:=P5.trans hm6;clear hv6 hm6;have hk2:w6.cell? ⟨E.gp,2,none⟩=some (.int .i64 (v6.st.k:Int)):=h6.blk.cell 2
  go_wp2_with fail
  refine(leaf_any E hE v6 _ h6 v6.st.k 0 [] (w.heap.size+1)).mono ?_;rintro e w7 ⟨rfl,hb7,hT7⟩;have h7:=h6.below hb7;have hR7:=hR6.below hb7 hR6.lt;have P7:=P6.trans (PM.of_below hb7);clear hk2 hb7
  go_wp2_with fail
  generalize hW8:w7.alloc (.cells #[.int .i64 0,.string (mkS []),.int .i64 (nodeAt E.l v6.st v6.st.k []),.int .i64 (v6.st.last:Int),.slice none 0 0] 24)=w8
  have hb8:Below w7.heap.size w7 w8:=by rw[← hW8];exact below_alloc _ _
  have X8:Boxed w8 _ w7.heap.size (nodeM E.l v6.st v6.st.k 0 [] []) (.int .i64 0) (.string (mkS [])) (.int .i64 (nodeAt E.l v6.st v6.st.k [])) (.int .i64 (v6.st.last:Int)) (.slice none 0 0):=⟨by rw[← hW8];exact Blk.new w7 _ _,TreeOwn.keeps (KeepsN.of_below hb8) _ _ hT7⟩
  have h8:=h7.below hb8;have hR8:=hR7.below hb8 hR7.lt;have P8:=P7.trans (PM.of_below hb8);have hlt7:=hR7.lt
  obtain⟨v8,hv8⟩:∃ vv,vv=v6:=⟨_,rfl⟩
  have HV8:=HV6;rw[← hv8]at h8 P8 HV8;clear hv8 hW8 hT7;refine(primary_to E hE v8 _ h8 HV8.out HB7.out).mono ?_;rintro e w9 ⟨rfl,v9,hv9,h9,hm9⟩;have HV9:=kH hv9;have hR9:=hm9.blk h8 hR8;have P9:=P8.trans hm9
  replace X8:=X8.pm hm9 h8
  clear hv9 hm9
  cases b7
  case true =>
   obtain⟨x7,q7,hx,hrq⟩:∃ x q1,parM E.bs E.l f (.expr 1) (readM E.l v.st)=some ([x],q1)∧(t,q)=(nodeM E.l (expectM E.bs E.l q1 [59]) v.st.k 17 [] [x],expectM E.bs E.l q1 [59]):=by
    have:=HR.out;rw[if_pos (by simp[HB7.out])]at this;obtain⟨x,p,h1,h2⟩:=one_some this;simp at h2;exact⟨x,p,h1,by rw[← h2.1,← h2.2]⟩
   have HX:=kH hx;have HRES:=kH hrq;clear hx hrq HR;have hcall:=HA.out.expr 1 v9 w9 x7 q7 h9 (by omega) (by omega) (by rw[HV9.out];exact HX.out);have HC:=kH hcall;have hgI:=X8.1.lt;clear hcall
   go_wp2_with fail
   refine(HC.out).mono ?_;rintro e w31 ⟨k31,t31,a31,z31,A31,n31,c31,rfl,hT31,v31,hv31,h31,hm31⟩
   try dsimp only at hv31 hT31
   have HV31:=kH hv31;have hR31:=hm31.blk h9 hR9;have P31:=P9.trans hm31
   replace hT31:=TreeOwn.weak (Q:=fun g=>w.heap.size+1≤g∧g≠w7.heap.size) (fun g _ hg=>⟨Nat.le_trans hR9.lt hg,by omega⟩) _ _ hT31
   have hX31:=hm31.blk h9 X8.1;obtain⟨⟨q0,q1',q2,q3,q4⟩,qg0,qg1,qg2,qg3,qg4⟩:=hX31.five;have hl31:=hX31.lt;clear hv31 hm31 X8
   go_wp2_with fail
   obtain⟨h32,P32,hB32,hk32⟩:=store_box h31 P31 hX31 (by omega) (.int .i64 k31) (.string t31) (.int .i64 a31) (.int .i64 z31) (.slice A31 n31 c31);have hR32:=hR31.keep (hk32 w.heap.size _ (by omega) hR31)
   have X31:Boxed _ _ _ _ (.int .i64 k31) (.string t31) (.int .i64 a31) (.int .i64 z31) (.slice A31 n31 c31):=⟨hB32,TreeOwn.keeps (w':=set5 w31 w7.heap.size (.int .i64 k31) (.string t31) (.int .i64 a31) (.int .i64 z31) (.slice A31 n31 c31)) (fun g cs hP hc=>hk32 g cs hP.2 hc) _ _ hT31⟩
   obtain⟨v32,hv32⟩:∃ vv,vv=v31:=⟨_,rfl⟩
   have HV32:=HV31;rw[← hv32]at h32 P32 HV32;clear hv32 hB32 hk32 hT31 hX31 q0 q1' q2 q3 q4 qg0 qg1 qg2 qg3 qg4 hl31;refine(expect_to E hE v32 _ h32 HV32.out [59]).mono ?_;rintro e w33 ⟨rfl,v33,hv33,h33,hm33⟩;have HV33:=kH hv33;have hR33:=hm33.blk h32 hR32;have P33:=P32.trans hm33
   replace X31:=X31.pm hm33 h32
   clear hv33 hm33;obtain⟨⟨qaX31,qbX31,qcX31,qdX31,qeX31⟩,qgX31,qhX31,qiX31,qjX31,qkX31⟩:=X31.1.five;have qlX31:=X31.1.lt
   go_wp2_with fail
   clear qaX31 qbX31 qcX31 qdX31 qeX31 qgX31 qhX31 qiX31 qjX31 qkX31 qlX31
   replace X31:=X31.weak (Q:=fun g=>w.heap.size+1≤g) (fun g _ hp=>hp.1)
   have HK34:=kH (kids_lit1 X31.2 (by have:=hR33.lt;omega))
   generalize hW34:w33.alloc (.cells #[.int .i64 k31,.string t31,.int .i64 a31,.int .i64 z31,.slice A31 n31 c31] 24)=w34 at HK34 ⊢
   have hb34:Below w33.heap.size w33 w34:=by rw[← hW34];exact below_alloc _ _
   have h34:=h33.below hb34;have hR34:=hR33.below hb34 hR33.lt;have P34:=P33.trans (PM.of_below hb34)
   obtain⟨v34,hv34⟩:∃ vv,vv=v33:=⟨_,rfl⟩
   have HV34:=HV33;rw[← hv34]at h34 P34 HV34;clear hv34 hW34;refine(nodek_any E hE v34 _ h34 v.st.k 17 [] (w.heap.size+1) (some ⟨w33.heap.size,0,none⟩) 1 1 [x7] HK34.out).mono ?_;rintro e w35 ⟨rfl,hb35,hT35⟩;have h35:=h34.below hb35;have hR35:=hR34.below hb35 hR34.lt;obtain⟨⟨r0,r1,r2,r3,r4⟩,g0,g1,g2,g3,g4⟩:=hR35.five
   go_wp2_with fail
   have HEND:=kH (tree_end (v:=v) h35 (P34.trans (PM.of_below hb35)) rfl hR35 hgl hT35);clear hT35;refine bodyPost_ret (v:=.agg #[.int .i64 17,.string (mkS []),.int .i64 (nodeAt E.l v34.st v.st.k [x7]),.int .i64 (v34.st.last:Int),.slice (some ⟨w33.heap.size,0,none⟩) 1 1]) (by simp[results,Tryz.results74,go_sem,r0,r1,r2,r3,r4]) rfl ?_;exact Eq.mp (congrArg (fun r=>TreeRes E w v r _ _) (show (nodeM E.l v34.st v.st.k 17 [] [x7],v34.st)=_ by rw[HRES.out,HV34.out])) HEND.out
  go_wp2_with fail
  refine(is_to E hE v9 _ h9 HV9.out [110,111,116] HB8.out).mono ?_;rintro e w10 ⟨rfl,v10,hv10,h10,hm10⟩;have HV10:=kH hv10;have hR10:=hm10.blk h9 hR9;have P10:=P9.trans hm10
  replace X8:=X8.pm hm10 h9
  clear hv10 hm10
  cases b8
  case true =>
   obtain⟨x7,q7,hx,hrq⟩:∃ x q1,parM E.bs E.l f (.expr 1) (readM E.l v.st)=some ([x],q1)∧(t,q)=(nodeM E.l (expectM E.bs E.l q1 [59]) v.st.k 17 [] [x],expectM E.bs E.l q1 [59]):=by
    have:=HR.out;rw[if_pos (by simp[HB8.out])]at this;obtain⟨x,p,h1,h2⟩:=one_some this;simp at h2;exact⟨x,p,h1,by rw[← h2.1,← h2.2]⟩
   have HX:=kH hx;have HRES:=kH hrq;clear hx hrq HR;have hcall:=HA.out.expr 1 v10 w10 x7 q7 h10 (by omega) (by omega) (by rw[HV10.out];exact HX.out);have HC:=kH hcall;have hgI:=X8.1.lt;clear hcall
   go_wp2_with fail
   refine(HC.out).mono ?_;rintro e w31 ⟨k31,t31,a31,z31,A31,n31,c31,rfl,hT31,v31,hv31,h31,hm31⟩
   try dsimp only at hv31 hT31
   have HV31:=kH hv31;have hR31:=hm31.blk h10 hR10;have P31:=P10.trans hm31
   replace hT31:=TreeOwn.weak (Q:=fun g=>w.heap.size+1≤g∧g≠w7.heap.size) (fun g _ hg=>⟨Nat.le_trans hR10.lt hg,by omega⟩) _ _ hT31
   have hX31:=hm31.blk h10 X8.1;obtain⟨⟨q0,q1',q2,q3,q4⟩,qg0,qg1,qg2,qg3,qg4⟩:=hX31.five;have hl31:=hX31.lt;clear hv31 hm31 X8
   go_wp2_with fail
   obtain⟨h32,P32,hB32,hk32⟩:=store_box h31 P31 hX31 (by omega) (.int .i64 k31) (.string t31) (.int .i64 a31) (.int .i64 z31) (.slice A31 n31 c31);have hR32:=hR31.keep (hk32 w.heap.size _ (by omega) hR31)
   have X31:Boxed _ _ _ _ (.int .i64 k31) (.string t31) (.int .i64 a31) (.int .i64 z31) (.slice A31 n31 c31):=⟨hB32,TreeOwn.keeps (w':=set5 w31 w7.heap.size (.int .i64 k31) (.string t31) (.int .i64 a31) (.int .i64 z31) (.slice A31 n31 c31)) (fun g cs hP hc=>hk32 g cs hP.2 hc) _ _ hT31⟩
   obtain⟨v32,hv32⟩:∃ vv,vv=v31:=⟨_,rfl⟩
   have HV32:=HV31;rw[← hv32]at h32 P32 HV32;clear hv32 hB32 hk32 hT31 hX31 q0 q1' q2 q3 q4 qg0 qg1 qg2 qg3 qg4 hl31;refine(expect_to E hE v32 _ h32 HV32.out [59]).mono ?_;rintro e w33 ⟨rfl,v33,hv33,h33,hm33⟩;have HV33:=kH hv33;have hR33:=hm33.blk h32 hR32;have P33:=P32.trans hm33
   replace X31:=X31.pm hm33 h32
   clear hv33 hm33;obtain⟨⟨qaX31,qbX31,qcX31,qdX31,qeX31⟩,qgX31,qhX31,qiX31,qjX31,qkX31⟩:=X31.1.five;have qlX31:=X31.1.lt
   go_wp2_with fail
   clear qaX31 qbX31 qcX31 qdX31 qeX31 qgX31 qhX31 qiX31 qjX31 qkX31 qlX31
   replace X31:=X31.weak (Q:=fun g=>w.heap.size+1≤g) (fun g _ hp=>hp.1)
   have HK34:=kH (kids_lit1 X31.2 (by have:=hR33.lt;omega))
   generalize hW34:w33.alloc (.cells #[.int .i64 k31,.string t31,.int .i64 a31,.int .i64 z31,.slice A31 n31 c31] 24)=w34 at HK34 ⊢
   have hb34:Below w33.heap.size w33 w34:=by rw[← hW34];exact below_alloc _ _
   have h34:=h33.below hb34;have hR34:=hR33.below hb34 hR33.lt;have P34:=P33.trans (PM.of_below hb34)
   obtain⟨v34,hv34⟩:∃ vv,vv=v33:=⟨_,rfl⟩
   have HV34:=HV33;rw[← hv34]at h34 P34 HV34;clear hv34 hW34;refine(nodek_any E hE v34 _ h34 v.st.k 17 [] (w.heap.size+1) (some ⟨w33.heap.size,0,none⟩) 1 1 [x7] HK34.out).mono ?_;rintro e w35 ⟨rfl,hb35,hT35⟩;have h35:=h34.below hb35;have hR35:=hR34.below hb35 hR34.lt;obtain⟨⟨r0,r1,r2,r3,r4⟩,g0,g1,g2,g3,g4⟩:=hR35.five
   go_wp2_with fail
   have HEND:=kH (tree_end (v:=v) h35 (P34.trans (PM.of_below hb35)) rfl hR35 hgl hT35);clear hT35;refine bodyPost_ret (v:=.agg #[.int .i64 17,.string (mkS []),.int .i64 (nodeAt E.l v34.st v.st.k [x7]),.int .i64 (v34.st.last:Int),.slice (some ⟨w33.heap.size,0,none⟩) 1 1]) (by simp[results,Tryz.results74,go_sem,r0,r1,r2,r3,r4]) rfl ?_;exact Eq.mp (congrArg (fun r=>TreeRes E w v r _ _) (show (nodeM E.l v34.st v.st.k 17 [] [x7],v34.st)=_ by rw[HRES.out,HV34.out])) HEND.out
  go_wp2_with fail
  refine(is_to E hE v10 _ h10 HV10.out [45] HB9.out).mono ?_;rintro e w11 ⟨rfl,v11,hv11,h11,hm11⟩;have HV11:=kH hv11;have hR11:=hm11.blk h10 hR10;have P11:=P10.trans hm11
  replace X8:=X8.pm hm11 h10
  clear hv11 hm11
  cases b9
  case true =>
   obtain⟨x7,q7,hx,hrq⟩:∃ x q1,parM E.bs E.l f (.expr 1) (readM E.l v.st)=some ([x],q1)∧(t,q)=(nodeM E.l (expectM E.bs E.l q1 [59]) v.st.k 17 [] [x],expectM E.bs E.l q1 [59]):=by
    have:=HR.out;rw[if_pos (by simp[HB9.out])]at this;obtain⟨x,p,h1,h2⟩:=one_some this;simp at h2;exact⟨x,p,h1,by rw[← h2.1,← h2.2]⟩
   have HX:=kH hx;have HRES:=kH hrq;clear hx hrq HR;have hcall:=HA.out.expr 1 v11 w11 x7 q7 h11 (by omega) (by omega) (by rw[HV11.out];exact HX.out);have HC:=kH hcall;have hgI:=X8.1.lt;clear hcall
   go_wp2_with fail
   refine(HC.out).mono ?_;rintro e w31 ⟨k31,t31,a31,z31,A31,n31,c31,rfl,hT31,v31,hv31,h31,hm31⟩
   try dsimp only at hv31 hT31
   have HV31:=kH hv31;have hR31:=hm31.blk h11 hR11;have P31:=P11.trans hm31
   replace hT31:=TreeOwn.weak (Q:=fun g=>w.heap.size+1≤g∧g≠w7.heap.size) (fun g _ hg=>⟨Nat.le_trans hR11.lt hg,by omega⟩) _ _ hT31
   have hX31:=hm31.blk h11 X8.1;obtain⟨⟨q0,q1',q2,q3,q4⟩,qg0,qg1,qg2,qg3,qg4⟩:=hX31.five;have hl31:=hX31.lt;clear hv31 hm31 X8
   go_wp2_with fail
   obtain⟨h32,P32,hB32,hk32⟩:=store_box h31 P31 hX31 (by omega) (.int .i64 k31) (.string t31) (.int .i64 a31) (.int .i64 z31) (.slice A31 n31 c31);have hR32:=hR31.keep (hk32 w.heap.size _ (by omega) hR31)
   have X31:Boxed _ _ _ _ (.int .i64 k31) (.string t31) (.int .i64 a31) (.int .i64 z31) (.slice A31 n31 c31):=⟨hB32,TreeOwn.keeps (w':=set5 w31 w7.heap.size (.int .i64 k31) (.string t31) (.int .i64 a31) (.int .i64 z31) (.slice A31 n31 c31)) (fun g cs hP hc=>hk32 g cs hP.2 hc) _ _ hT31⟩
   obtain⟨v32,hv32⟩:∃ vv,vv=v31:=⟨_,rfl⟩
   have HV32:=HV31;rw[← hv32]at h32 P32 HV32;clear hv32 hB32 hk32 hT31 hX31 q0 q1' q2 q3 q4 qg0 qg1 qg2 qg3 qg4 hl31;refine(expect_to E hE v32 _ h32 HV32.out [59]).mono ?_;rintro e w33 ⟨rfl,v33,hv33,h33,hm33⟩;have HV33:=kH hv33;have hR33:=hm33.blk h32 hR32;have P33:=P32.trans hm33
   replace X31:=X31.pm hm33 h32
   clear hv33 hm33;obtain⟨⟨qaX31,qbX31,qcX31,qdX31,qeX31⟩,qgX31,qhX31,qiX31,qjX31,qkX31⟩:=X31.1.five;have qlX31:=X31.1.lt
   go_wp2_with fail
   clear qaX31 qbX31 qcX31 qdX31 qeX31 qgX31 qhX31 qiX31 qjX31 qkX31 qlX31
   replace X31:=X31.weak (Q:=fun g=>w.heap.size+1≤g) (fun g _ hp=>hp.1)
   have HK34:=kH (kids_lit1 X31.2 (by have:=hR33.lt;omega))
   generalize hW34:w33.alloc (.cells #[.int .i64 k31,.string t31,.int .i64 a31,.int .i64 z31,.slice A31 n31 c31] 24)=w34 at HK34 ⊢
   have hb34:Below w33.heap.size w33 w34:=by rw[← hW34];exact below_alloc _ _
   have h34:=h33.below hb34;have hR34:=hR33.below hb34 hR33.lt;have P34:=P33.trans (PM.of_below hb34)
   obtain⟨v34,hv34⟩:∃ vv,vv=v33:=⟨_,rfl⟩
   have HV34:=HV33;rw[← hv34]at h34 P34 HV34;clear hv34 hW34;refine(nodek_any E hE v34 _ h34 v.st.k 17 [] (w.heap.size+1) (some ⟨w33.heap.size,0,none⟩) 1 1 [x7] HK34.out).mono ?_;rintro e w35 ⟨rfl,hb35,hT35⟩;have h35:=h34.below hb35;have hR35:=hR34.below hb35 hR34.lt;obtain⟨⟨r0,r1,r2,r3,r4⟩,g0,g1,g2,g3,g4⟩:=hR35.five
   go_wp2_with fail
   have HEND:=kH (tree_end (v:=v) h35 (P34.trans (PM.of_below hb35)) rfl hR35 hgl hT35);clear hT35;refine bodyPost_ret (v:=.agg #[.int .i64 17,.string (mkS []),.int .i64 (nodeAt E.l v34.st v.st.k [x7]),.int .i64 (v34.st.last:Int),.slice (some ⟨w33.heap.size,0,none⟩) 1 1]) (by simp[results,Tryz.results74,go_sem,r0,r1,r2,r3,r4]) rfl ?_;exact Eq.mp (congrArg (fun r=>TreeRes E w v r _ _) (show (nodeM E.l v34.st v.st.k 17 [] [x7],v34.st)=_ by rw[HRES.out,HV34.out])) HEND.out
  have HRES:Hid ((t,q)=(nodeM E.l (expectM E.bs E.l (readM E.l v.st) [59]) v.st.k 17 [] [nodeM E.l v6.st v6.st.k 0 [] []],expectM E.bs E.l (readM E.l v.st) [59])):=kH (by
   have:=HR.out;rw[if_neg (by rw[HB7.out,HB8.out,HB9.out];simp)]at this;simp at this
   rw[HV6.out,← this.1,← this.2])
  clear HR
  go_wp2_with fail
  refine(expect_to E hE v11 _ h11 HV11.out [59]).mono ?_;rintro e w12 ⟨rfl,v12,hv12,h12,hm12⟩;have HV12:=kH hv12;have hR12:=hm12.blk h11 hR11;have P12:=P11.trans hm12
  replace X8:=X8.pm hm12 h11
  clear hv12 hm12;obtain⟨⟨qaX8,qbX8,qcX8,qdX8,qeX8⟩,qgX8,qhX8,qiX8,qjX8,qkX8⟩:=X8.1.five;have qlX8:=X8.1.lt
  go_wp2_with fail
  clear qaX8 qbX8 qcX8 qdX8 qeX8 qgX8 qhX8 qiX8 qjX8 qkX8 qlX8;have HK13:=kH (kids_lit1 X8.2 (by have:=hR12.lt;omega))
  generalize hW13:w12.alloc (.cells #[.int .i64 0,.string (mkS []),.int .i64 (nodeAt E.l v6.st v6.st.k []),.int .i64 (v6.st.last:Int),.slice none 0 0] 24)=w13 at HK13 ⊢
  have hb13:Below w12.heap.size w12 w13:=by rw[← hW13];exact below_alloc _ _
  have h13:=h12.below hb13;have hR13:=hR12.below hb13 hR12.lt;have P13:=P12.trans (PM.of_below hb13)
  obtain⟨v13,hv13⟩:∃ vv,vv=v12:=⟨_,rfl⟩
  have HV13:=HV12;rw[← hv13]at h13 P13 HV13;clear hv13 hW13;refine(nodek_any E hE v13 _ h13 v.st.k 17 [] (w.heap.size+1) (some ⟨w12.heap.size,0,none⟩) 1 1 [nodeM E.l v6.st v6.st.k 0 [] []] HK13.out).mono ?_;rintro e w14 ⟨rfl,hb14,hT14⟩;have h14:=h13.below hb14;have hR14:=hR13.below hb14 hR13.lt;obtain⟨⟨r0,r1,r2,r3,r4⟩,g0,g1,g2,g3,g4⟩:=hR14.five
  go_wp2_with fail
  have HEND:=kH (tree_end (v:=v) h14 (P13.trans (PM.of_below hb14)) rfl hR14 hgl hT14);clear hT14;refine bodyPost_ret (v:=.agg #[.int .i64 17,.string (mkS []),.int .i64 (nodeAt E.l v13.st v.st.k [nodeM E.l v6.st v6.st.k 0 [] []]),.int .i64 (v13.st.last:Int),.slice (some ⟨w12.heap.size,0,none⟩) 1 1]) (by simp[results,Tryz.results74,go_sem,r0,r1,r2,r3,r4]) rfl ?_;exact Eq.mp (congrArg (fun r=>TreeRes E w v r _ _) (show (nodeM E.l v13.st v.st.k 17 [] [nodeM E.l v6.st v6.st.k 0 [] []],v13.st)=_ by rw[HRES.out,HV13.out])) HEND.out
 have hR2:=HR.out;rw[HB5.out,if_neg (by simp)]at hR2
 replace HR:=kH hR2
 clear hR2;refine(accept_no E hE v5 _ h5 HV5.out [114,101,116,117,114,110] HB5.out).mono ?_;rintro e w6 ⟨rfl,v6,hv6,h6,hm6⟩;have HV6:=kH hv6;have hR6:=hm6.blk h5 hR5;have P6:=P5.trans hm6;clear hv6 hm6
 go_wp2_with fail
 cases b6
 case true =>
  obtain⟨x7,q7,hx,hrq⟩:∃ x q1,parM E.bs E.l f (.expr 1) (readM E.l v.st)=some ([x],q1)∧(t,q)=(nodeM E.l (expectM E.bs E.l q1 [59]) v.st.k 18 [] [x],expectM E.bs E.l q1 [59]):=by
   have:=HR.out;rw[HB6.out,if_pos rfl]at this;obtain⟨x,p,h1,h2⟩:=one_some this;simp at h2;exact⟨x,p,h1,by rw[← h2.1,← h2.2]⟩
  have HX:=kH hx;have HRES:=kH hrq;clear hx hrq HR;refine(accept_yes E hE v6 _ h6 HV6.out [97,115,115,101,114,116] HB6.out).mono ?_;rintro e w7 ⟨rfl,v7,hv7,h7,hm7⟩;have HV7:=kH hv7;have hR7:=hm7.blk h6 hR6;have P7:=P6.trans hm7;clear hv7 hm7;have hcall:=HA.out.expr 1 v7 w7 x7 q7 h7 (by omega) (by omega) (by rw[HV7.out];exact HX.out);have HC:=kH hcall;clear hcall
  go_wp2_with fail
  refine(HC.out).mono ?_;rintro e w8 ⟨k8,t8,a8,z8,A8,n8,c8,rfl,hT8,v8,hv8,h8,hm8⟩
  try dsimp only at hv8 hT8
  have HV8:=kH hv8;have hR8:=hm8.blk h7 hR7;have P8:=P7.trans hm8
  replace hT8:=TreeOwn.weak (Q:=fun g=>w.heap.size+1≤g) (fun g _ hg=>Nat.le_trans hR7.lt hg) _ _ hT8
  clear hv8 hm8
  go_wp2_with fail
  generalize hW9:w8.alloc (.cells #[.int .i64 k8,.string t8,.int .i64 a8,.int .i64 z8,.slice A8 n8 c8] 24)=w9
  have hb9:Below w8.heap.size w8 w9:=by rw[← hW9];exact below_alloc _ _
  have X8:Boxed w9 _ w8.heap.size _ (.int .i64 k8) (.string t8) (.int .i64 a8) (.int .i64 z8) (.slice A8 n8 c8):=⟨by rw[← hW9];exact Blk.new w8 _ _,TreeOwn.keeps (KeepsN.of_below hb9) _ _ hT8⟩
  have hs9:w9.heap.size=w8.heap.size+1:=by rw[← hW9];simp
  have h9:=h8.below hb9;have hR9:=hR8.below hb9 hR8.lt;have P9:=P8.trans (PM.of_below hb9)
  obtain⟨v9,hv9⟩:∃ vv,vv=v8:=⟨_,rfl⟩
  have HV9:=HV8;rw[← hv9]at h9 P9 HV9
  try rw[← hs9]
  clear hv9 hW9 hT8 hs9;refine(expect_to E hE v9 _ h9 HV9.out [59]).mono ?_;rintro e w10 ⟨rfl,v10,hv10,h10,hm10⟩;have HV10:=kH hv10;have hR10:=hm10.blk h9 hR9;have P10:=P9.trans hm10
  replace X8:=X8.pm hm10 h9
  clear hv10 hm10;obtain⟨⟨qaX8,qbX8,qcX8,qdX8,qeX8⟩,qgX8,qhX8,qiX8,qjX8,qkX8⟩:=X8.1.five;have qlX8:=X8.1.lt
  go_wp2_with fail
  clear qaX8 qbX8 qcX8 qdX8 qeX8 qgX8 qhX8 qiX8 qjX8 qkX8 qlX8;have HK11:=kH (kids_lit1 X8.2 (by have:=hR10.lt;omega))
  generalize hW11:w10.alloc (.cells #[.int .i64 k8,.string t8,.int .i64 a8,.int .i64 z8,.slice A8 n8 c8] 24)=w11 at HK11 ⊢
  have hb11:Below w10.heap.size w10 w11:=by rw[← hW11];exact below_alloc _ _
  have h11:=h10.below hb11;have hR11:=hR10.below hb11 hR10.lt;have P11:=P10.trans (PM.of_below hb11)
  obtain⟨v11,hv11⟩:∃ vv,vv=v10:=⟨_,rfl⟩
  have HV11:=HV10;rw[← hv11]at h11 P11 HV11;clear hv11 hW11;refine(nodek_any E hE v11 _ h11 v.st.k 18 [] (w.heap.size+1) (some ⟨w10.heap.size,0,none⟩) 1 1 [x7] HK11.out).mono ?_;rintro e w12 ⟨rfl,hb12,hT12⟩;have h12:=h11.below hb12;have hR12:=hR11.below hb12 hR11.lt;obtain⟨⟨r0,r1,r2,r3,r4⟩,g0,g1,g2,g3,g4⟩:=hR12.five
  go_wp2_with fail
  have HEND:=kH (tree_end (v:=v) h12 (P11.trans (PM.of_below hb12)) rfl hR12 hgl hT12);clear hT12;refine bodyPost_ret (v:=.agg #[.int .i64 18,.string (mkS []),.int .i64 (nodeAt E.l v11.st v.st.k [x7]),.int .i64 (v11.st.last:Int),.slice (some ⟨w10.heap.size,0,none⟩) 1 1]) (by simp[results,Tryz.results74,go_sem,r0,r1,r2,r3,r4]) rfl ?_;exact Eq.mp (congrArg (fun r=>TreeRes E w v r _ _) (show (nodeM E.l v11.st v.st.k 18 [] [x7],v11.st)=_ by rw[HRES.out,HV11.out])) HEND.out
 have hR2:=HR.out;rw[HB6.out,if_neg (by simp)]at hR2
 replace HR:=kH hR2
 clear hR2;refine(accept_no E hE v6 _ h6 HV6.out [97,115,115,101,114,116] HB6.out).mono ?_;rintro e w7 ⟨rfl,v7,hv7,h7,hm7⟩;have HV7:=kH hv7;have hR7:=hm7.blk h6 hR6;have P7:=P6.trans hm7;clear hv7 hm7
 go_wp2_with fail
 refine(kind_to E hE v7 _ h7 HV7.out HK.out).mono ?_;rintro e w8 ⟨rfl,v8,hv8,h8,hm8⟩;have HV8:=kH hv8;have hR8:=hm8.blk h7 hR7;have P8:=P7.trans hm8;clear hv8 hm8
 by_cases hk0:k=0
 ·subst hk0
  obtain⟨x,hx⟩:∃ x,behindM E.bs E.l v.st=x:=⟨_,rfl⟩
  have HX:=kH hx;clear hx
  go_wp2_with fail
  refine(behind_to E hE v8 _ h8 HV8.out HX.out).mono ?_;rintro e w9 ⟨rfl,v9,hv9,h9,hm9⟩;have HV9:=kH hv9;have hR9:=hm9.blk h8 hR8;have P9:=P8.trans hm9;clear hv9 hm9
  by_cases hpar:x = [40]
  ·subst hpar
   obtain⟨kids,q1,hy,hrq⟩:∃ kids q1,parM E.bs E.l f .args (readM E.l v.st)=some (kids,q1)∧(t,q)=(nodeM E.l (expectM E.bs E.l q1 [59]) v.st.k 19 (wordM E.bs E.l v.st.k) kids,expectM E.bs E.l q1 [59]):=by
    have:=HR.out;rw[if_pos (by rw[HK.out,HX.out];simp)]at this;obtain⟨ks,p,h1,h2⟩:=many_some this;simp at h2;exact⟨ks,p,h1,by rw[← h2.1,← h2.2]⟩
   have HY:=kH hy;have HRES:=kH hrq;have e40:mkS [40] =⟨#[40]⟩:=rfl;rw[e40];clear hy hrq e40
   go_wp2_with fail
   refine(read_to E hE v9 _ h9 HV9.out (by rw[HK.out];decide)).mono ?_;rintro e w10 ⟨rfl,v10,hv10,h10,hm10⟩;have HV10:=kH hv10;have hR10:=hm10.blk h9 hR9;have P10:=P9.trans hm10;clear hv10 hm10;have hcall:=HA.out.args v10 w10 kids q1 h10 (by rw[HV10.out];exact behind_ready hE.empty HX.out) (by rw[HV10.out];exact HY.out);have HC:=kH hcall;clear hcall
   go_wp2_with fail
   refine HC.out.mono ?_;rintro e w11 ⟨A11,n11,c11,rfl,hK11,v11,hv11,h11,hm11⟩;have HV11:=kH hv11;have hR11:=hm11.blk h10 hR10;have P11:=P10.trans hm11;have HK11:=kH (hK11.low (lo':=w.heap.size+1) hR10.lt);clear hv11 hm11 hK11
   go_wp2_with fail
   refine(expect_to E hE v11 _ h11 HV11.out [59]).mono ?_;rintro e w12 ⟨rfl,v12,hv12,h12,hm12⟩;have HV12:=kH hv12;have hR12:=hm12.blk h11 hR11;have P12:=P11.trans hm12;have HK12:=kH (HK11.out.keeps (hm12.keepsN h11));clear hv12 hm12
   go_wp2_with fail
   refine(nodek_any E hE v12 _ h12 v.st.k 19 (wordM E.bs E.l v.st.k) (w.heap.size+1) A11 n11 c11 kids HK12.out).mono ?_;rintro e w13 ⟨rfl,hb13,hT13⟩;have h13:=h12.below hb13;have hR13:=hR12.below hb13 hR12.lt;obtain⟨⟨r0,r1,r2,r3,r4⟩,g0,g1,g2,g3,g4⟩:=hR13.five
   go_wp2_with fail
   have HEND:=kH (tree_end (v:=v) h13 (P12.trans (PM.of_below hb13)) rfl hR13 hgl hT13);clear hT13;refine bodyPost_ret (v:=.agg #[.int .i64 19,.string (mkS (wordM E.bs E.l v.st.k)),.int .i64 (nodeAt E.l v12.st v.st.k kids),.int .i64 (v12.st.last:Int),.slice A11 n11 c11]) (by simp[results,Tryz.results74,go_sem,r0,r1,r2,r3,r4]) rfl ?_;exact Eq.mp (congrArg (fun r=>TreeRes E w v r _ _) (show (nodeM E.l v12.st v.st.k 19 (wordM E.bs E.l v.st.k) kids,v12.st)=_ by rw[HRES.out,HV12.out])) HEND.out
  ·obtain⟨wd,hwd⟩:∃ y,mkS x=y:=⟨_,rfl⟩
   have hwf:(wd.data.toList == [40])=false:=by rw[← hwd];simpa [mkS] using hpar
   have hwf2:(wd.toList == [40])=false:=by rw[ByteArray.toList_eq];exact hwf
   rw[hwd]
   obtain⟨x11,q11,x14,q14,hx,hy,hrq⟩:∃ x q1 y q2,parM E.bs E.l f .place v.st=some ([x],q1)∧parM E.bs E.l f (.expr 1) (expectM E.bs E.l q1 [61])=some ([y],q2)∧(t,q)=(nodeM E.l (expectM E.bs E.l q2 [59]) v.st.k 13 [] [x,y],expectM E.bs E.l q2 [59]):=by
    have:=HR.out;rw[if_neg (by rw[HK.out,HX.out];simp[hpar]),if_pos HK.out]at this;obtain⟨x,p,h1,h2⟩:=one_some this;obtain⟨y,p2,h3,h4⟩:=one_some h2;simp at h4;exact⟨x,p,y,p2,h1,h3,by rw[← h4.1,← h4.2]⟩
   have HX2:=kH hx;have HY:=kH hy;have HRES:=kH hrq;clear hx hy hrq HR hwd hpar
   go_wp2_with fail
   refine(kind_to E hE v9 _ h9 HV9.out HK.out).mono ?_;rintro e w10 ⟨rfl,v10,hv10,h10,hm10⟩;have HV10:=kH hv10;have hR10:=hm10.blk h9 hR9;have P10:=P9.trans hm10;clear hv10 hm10;have hcall:=HA.out.place v10 w10 x11 q11 h10 (by rw[HV10.out];exact HX2.out);have HC:=kH hcall;clear hcall
   go_wp2_with fail
   refine(HC.out).mono ?_;rintro e w11 ⟨k11,t11,a11,z11,A11,n11,c11,rfl,hT11,v11,hv11,h11,hm11⟩
   try dsimp only at hv11 hT11
   have HV11:=kH hv11;have hR11:=hm11.blk h10 hR10;have P11:=P10.trans hm11
   replace hT11:=TreeOwn.weak (Q:=fun g=>w.heap.size+1≤g) (fun g _ hg=>Nat.le_trans hR10.lt hg) _ _ hT11
   clear hv11 hm11
   go_wp2_with fail
   generalize hW12:w11.alloc (.cells #[.int .i64 k11,.string t11,.int .i64 a11,.int .i64 z11,.slice A11 n11 c11] 24)=w12
   have hb12:Below w11.heap.size w11 w12:=by rw[← hW12];exact below_alloc _ _
   have X11:Boxed w12 _ w11.heap.size _ (.int .i64 k11) (.string t11) (.int .i64 a11) (.int .i64 z11) (.slice A11 n11 c11):=⟨by rw[← hW12];exact Blk.new w11 _ _,TreeOwn.keeps (KeepsN.of_below hb12) _ _ hT11⟩
   have hs12:w12.heap.size=w11.heap.size+1:=by rw[← hW12];simp
   have h12:=h11.below hb12;have hR12:=hR11.below hb12 hR11.lt;have P12:=P11.trans (PM.of_below hb12)
   obtain⟨v12,hv12⟩:∃ vv,vv=v11:=⟨_,rfl⟩
   have HV12:=HV11;rw[← hv12]at h12 P12 HV12
   try rw[← hs12]
   clear hv12 hW12 hT11 hs12;refine(expect_to E hE v12 _ h12 HV12.out [61]).mono ?_;rintro e w13 ⟨rfl,v13,hv13,h13,hm13⟩;have HV13:=kH hv13;have hR13:=hm13.blk h12 hR12;have P13:=P12.trans hm13
   replace X11:=X11.pm hm13 h12
   clear hv13 hm13;have hcall:=HA.out.expr 1 v13 w13 x14 q14 h13 (by omega) (by omega) (by rw[HV13.out];exact HY.out);have HC2:=kH hcall;clear hcall
   go_wp2_with fail
   refine(HC2.out).mono ?_;rintro e w14 ⟨k14,t14,a14,z14,A14,n14,c14,rfl,hT14,v14,hv14,h14,hm14⟩
   try dsimp only at hv14 hT14
   have HV14:=kH hv14;have hR14:=hm14.blk h13 hR13;have P14:=P13.trans hm14
   replace hT14:=TreeOwn.weak (Q:=fun g=>w.heap.size+1≤g) (fun g _ hg=>Nat.le_trans hR13.lt hg) _ _ hT14
   replace X11:=X11.pm hm14 h13
   clear hv14 hm14
   go_wp2_with fail
   generalize hW15:w14.alloc (.cells #[.int .i64 k14,.string t14,.int .i64 a14,.int .i64 z14,.slice A14 n14 c14] 24)=w15
   have hb15:Below w14.heap.size w14 w15:=by rw[← hW15];exact below_alloc _ _
   have X14:Boxed w15 _ w14.heap.size _ (.int .i64 k14) (.string t14) (.int .i64 a14) (.int .i64 z14) (.slice A14 n14 c14):=⟨by rw[← hW15];exact Blk.new w14 _ _,TreeOwn.keeps (KeepsN.of_below hb15) _ _ hT14⟩
   have hs15:w15.heap.size=w14.heap.size+1:=by rw[← hW15];simp
   have h15:=h14.below hb15;have hR15:=hR14.below hb15 hR14.lt;have P15:=P14.trans (PM.of_below hb15)
   replace X11:=X11.below hb15
   obtain⟨v15,hv15⟩:∃ vv,vv=v14:=⟨_,rfl⟩
   have HV15:=HV14;rw[← hv15]at h15 P15 HV15
   try rw[← hs15]
   clear hv15 hW15 hT14 hs15;refine(expect_to E hE v15 _ h15 HV15.out [59]).mono ?_;rintro e w16 ⟨rfl,v16,hv16,h16,hm16⟩;have HV16:=kH hv16;have hR16:=hm16.blk h15 hR15;have P16:=P15.trans hm16
   replace X11:=X11.pm hm16 h15
   replace X14:=X14.pm hm16 h15
   clear hv16 hm16;obtain⟨⟨qaX11,qbX11,qcX11,qdX11,qeX11⟩,qgX11,qhX11,qiX11,qjX11,qkX11⟩:=X11.1.five;have qlX11:=X11.1.lt;obtain⟨⟨qaX14,qbX14,qcX14,qdX14,qeX14⟩,qgX14,qhX14,qiX14,qjX14,qkX14⟩:=X14.1.five;have qlX14:=X14.1.lt
   go_wp2_with fail
   clear qaX11 qbX11 qcX11 qdX11 qeX11 qgX11 qhX11 qiX11 qjX11 qkX11 qlX11;clear qaX14 qbX14 qcX14 qdX14 qeX14 qgX14 qhX14 qiX14 qjX14 qkX14 qlX14;have HK17:=kH (kids_lit2 X11.2 X14.2 (by have:=hR16.lt;omega))
   generalize hW17:w16.alloc (.cells #[.int .i64 k11,.string t11,.int .i64 a11,.int .i64 z11,.slice A11 n11 c11,.int .i64 k14,.string t14,.int .i64 a14,.int .i64 z14,.slice A14 n14 c14] 24)=w17 at HK17 ⊢
   have hb17:Below w16.heap.size w16 w17:=by rw[← hW17];exact below_alloc _ _
   have h17:=h16.below hb17;have hR17:=hR16.below hb17 hR16.lt;have P17:=P16.trans (PM.of_below hb17)
   obtain⟨v17,hv17⟩:∃ vv,vv=v16:=⟨_,rfl⟩
   have HV17:=HV16;rw[← hv17]at h17 P17 HV17;clear hv17 hW17;refine(nodek_any E hE v17 _ h17 v.st.k 13 [] (w.heap.size+1) (some ⟨w16.heap.size,0,none⟩) 2 2 [x11,x14] HK17.out).mono ?_;rintro e w18 ⟨rfl,hb18,hT18⟩;have h18:=h17.below hb18;have hR18:=hR17.below hb18 hR17.lt;obtain⟨⟨r0,r1,r2,r3,r4⟩,g0,g1,g2,g3,g4⟩:=hR18.five
   go_wp2_with fail
   have HEND:=kH (tree_end (v:=v) h18 (P17.trans (PM.of_below hb18)) rfl hR18 hgl hT18);clear hT18;refine bodyPost_ret (v:=.agg #[.int .i64 13,.string (mkS []),.int .i64 (nodeAt E.l v17.st v.st.k [x11,x14]),.int .i64 (v17.st.last:Int),.slice (some ⟨w16.heap.size,0,none⟩) 2 2]) (by simp[results,Tryz.results74,go_sem,r0,r1,r2,r3,r4]) rfl ?_;exact Eq.mp (congrArg (fun r=>TreeRes E w v r _ _) (show (nodeM E.l v17.st v.st.k 13 [] [x11,x14],v17.st)=_ by rw[HRES.out,HV17.out])) HEND.out
 have hki0:((k:Int) == 0)=false:=by simp;omega
 have hkn0:(k == 0)=false:=by simp[hk0]
 have hsk:skippedM E.bs E.l f v.st=some (t,q):=by
  have:=HR.out;rw[if_neg (by rw[HK.out];simp[hk0]),if_neg (by rw[HK.out];exact hk0)]at this;split at this
  ·cases this
  ·rename_i x p h
   simp at this;rw[h,this.1,this.2]
 have HSK:=kH hsk;clear hsk hk0 HR
 go_wp2_with fail
 refine(kind_to E hE v8 _ h8 HV8.out HK.out).mono ?_;rintro e w9 ⟨rfl,v9,hv9,h9,hm9⟩;have HV9:=kH hv9;have hR9:=hm9.blk h8 hR8;have P9:=P8.trans hm9;clear hv9 hm9;have hcall:=skipped_any E hE v9 w9 h9 f (t,q) (by rw[HV9.out];exact HSK.out);have HC:=kH hcall;clear hcall
 go_wp2_with fail
 refine(HC.out).mono ?_;rintro e w10 ⟨k10,t10,a10,z10,A10,n10,c10,rfl,hT10,v10,hv10,h10,hm10⟩
 try dsimp only at hv10 hT10
 have HV10:=kH hv10;have hR10:=hm10.blk h9 hR9;have P10:=P9.trans hm10
 replace hT10:=TreeOwn.weak (Q:=fun g=>w.heap.size+1≤g) (fun g _ hg=>Nat.le_trans hR9.lt hg) _ _ hT10
 clear hv10 hm10;have HRES:=trivial;obtain⟨⟨r0,r1,r2,r3,r4⟩,g0,g1,g2,g3,g4⟩:=hR10.five
 go_wp2_with fail
 have HEND:=kH (tree_end (v:=v) h10 P10 rfl hR10 hgl hT10);clear hT10;rw[HV10.out]at HEND;refine bodyPost_ret (v:=.agg #[.int .i64 k10,.string t10,.int .i64 a10,.int .i64 z10,.slice A10 n10 c10]) (by simp[results,Tryz.results74,go_sem,r0,r1,r2,r3,r4]) rfl ?_
 try rw[HRES.out]
 exact HEND.out
end Go.Proofs.YtoepemlnlpamlaaGreat
