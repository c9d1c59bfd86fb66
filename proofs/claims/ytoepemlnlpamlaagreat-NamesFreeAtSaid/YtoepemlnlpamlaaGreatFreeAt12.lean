/- The law NamesFreeAt holds: for every text and every number the law returns true, and its arguments read as before. No condition. Part 12: Branch StartM Start. -/
import Derived.Test.YtoepemlnlpamlaaGreatFreeAt04
import Derived.Test.YtoepemlnlpamlaaGreatFreeAt11
namespace Go.Proofs.YtoepemlnlpamlaaGreat
set_option maxRecDepth 100000
set_option maxHeartbeats 4000000
open Go.RowKit
theorem Boxed.store {w w':World} {P:Nat→Prop} {g g':Nat} {t:Tree} {a b c d e:Value} (h:Boxed w P g' t a b c d e) (hk:KeepsN (fun x=>x≠g) w w') (hP:∀ x,P x→x≠g) (hne:g'≠g):Boxed w' P g' t a b c d e :=
 ⟨Blk.keep h.1 (hk g' _ hne h.1),TreeOwn.keeps (fun x cs hx hc=>hk x cs (hP x hx) hc) _ _ h.2⟩
theorem branch_any (E:PE) (hE:E.Ok) (f:Nat) (IH:∀ f',f'≤f→AnsW E f') (v:PV) (w:World) (t:Tree) (q:PS) (hpw:PW w E v) (h5:kindM E.l v.st≠5) (hr:parM E.bs E.l (f+1) .branch v.st=some ([t],q)):Calls Tryz.prog 135 #[.pointer (some ⟨E.gp,0,none⟩)] w (TreeRes E w v (t,q)):=by
 rw[parM]at hr;obtain⟨x3,q3,hx,hr2⟩:=one_some hr;obtain⟨x5,q5,hy,hr3⟩:=one_some hr2;have HX:=kH hx;have HY:=kH hy;have HR:=kH hr3;have HA:=kH (IH f (Nat.le_refl _));have HH5:=kH h5
 obtain⟨b1,hb1⟩:∃ x,isM E.bs E.l q5 [101,108,115,101] = x:=⟨_,rfl⟩
 have HB1:=kH hb1
 obtain⟨b2,hb2⟩:∃ x,isM E.bs E.l (readM E.l q5) [105,102] = x:=⟨_,rfl⟩
 have HB2:=kH hb2;clear hr hx hr2 hy hr3 IH h5 hb1 hb2;have hgl:=hpw.blk.lt;have hk2:w.cell? ⟨E.gp,2,none⟩=some (.int .i64 (v.st.k:Int)):=hpw.blk.cell 2
 go_enter Tryz.func135,Tryz.ntmps135
 go_wp2_with fail
 generalize hW1:w.alloc (.cells #[.int .i64 0,.string ⟨#[]⟩,.int .i64 0,.int .i64 0,.slice none 0 0] 24)=W1
 have hb1:Below w.heap.size w W1:=by rw[← hW1];exact below_alloc _ _
 have hR1:Blk W1 w.heap.size 24 #[.int .i64 0,.string ⟨#[]⟩,.int .i64 0,.int .i64 0,.slice none 0 0]:=by rw[← hW1];exact Blk.new w _ _
 have hs1:W1.heap.size=w.heap.size+1:=by rw[← hW1];simp
 have hm1:=PM.of_below (E:=E) (v:=v) hb1;have h1:=hpw.below hb1;have P1:=hm1;have HS1:=kH hs1;have HM1:=kH hm1;clear hW1 hs1 hm1 hb1;clear hk2;have HV1:Hid (v.st=v.st):=kH rfl;refine(read_to E hE v _ h1 HV1.out HH5.out).mono ?_;rintro e w2 ⟨rfl,v2,hv2,h2,hm2⟩;have HV2:=kH hv2;have hR2:=hm2.blk h1 hR1;have P2:=P1.trans hm2;clear hv2 hm2;have hcall:=HA.out.expr 1 v2 w2 x3 q3 h2 (by omega) (by omega) (by rw[HV2.out];exact HX.out);have HC:=kH hcall;clear hcall
 go_wp2_with fail
 refine(HC.out).mono ?_;rintro e w3 ⟨k3,t3,a3,z3,A3,n3,c3,rfl,hT3,v3,hv3,h3,hm3⟩
 try dsimp only at hv3 hT3
 have HV3:=kH hv3;have hR3:=hm3.blk h2 hR2;have P3:=P2.trans hm3
 replace hT3:=TreeOwn.weak (Q:=fun g=>w.heap.size+1≤g) (fun g _ hg=>Nat.le_trans hR2.lt hg) _ _ hT3
 clear hv3 hm3
 go_wp2_with fail
 generalize hW4:w3.alloc (.cells #[.int .i64 k3,.string t3,.int .i64 a3,.int .i64 z3,.slice A3 n3 c3] 24)=w4
 have hb4:Below w3.heap.size w3 w4:=by rw[← hW4];exact below_alloc _ _
 have X3:Boxed w4 _ w3.heap.size _ (.int .i64 k3) (.string t3) (.int .i64 a3) (.int .i64 z3) (.slice A3 n3 c3):=⟨by rw[← hW4];exact Blk.new w3 _ _,TreeOwn.keeps (KeepsN.of_below hb4) _ _ hT3⟩
 have hs4:w4.heap.size=w3.heap.size+1:=by rw[← hW4];simp
 have h4:=h3.below hb4;have hR4:=hR3.below hb4 hR3.lt;have P4:=P3.trans (PM.of_below hb4)
 obtain⟨v4,hv4⟩:∃ vv,vv=v3:=⟨_,rfl⟩
 have HV4:=HV3;rw[← hv4]at h4 P4 HV4
 try rw[← hs4]
 clear hv4 hW4 hT3 hs4;have hcall:=HA.out.block v4 w4 x5 q5 h4 (by rw[HV4.out];exact HY.out);have HC2:=kH hcall;clear hcall;refine(HC2.out).mono ?_;rintro e w5 ⟨k5,t5,a5,z5,A5,n5,c5,rfl,hT5,v5,hv5,h5,hm5⟩
 try dsimp only at hv5 hT5
 have HV5:=kH hv5;have hR5:=hm5.blk h4 hR4;have P5:=P4.trans hm5
 replace hT5:=TreeOwn.weak (Q:=fun g=>w.heap.size+1≤g) (fun g _ hg=>Nat.le_trans hR4.lt hg) _ _ hT5
 replace X3:=X3.pm hm5 h4
 clear hv5 hm5;have hk2:w5.cell? ⟨E.gp,2,none⟩=some (.int .i64 (v5.st.k:Int)):=h5.blk.cell 2;have hgl5:=h5.blk.lt
 go_wp2_with fail
 generalize hW6:w5.alloc (.cells #[.int .i64 k5,.string t5,.int .i64 a5,.int .i64 z5,.slice A5 n5 c5] 24)=w6
 have hb6:Below w5.heap.size w5 w6:=by rw[← hW6];exact below_alloc _ _
 have X5:Boxed w6 _ w5.heap.size _ (.int .i64 k5) (.string t5) (.int .i64 a5) (.int .i64 z5) (.slice A5 n5 c5):=⟨by rw[← hW6];exact Blk.new w5 _ _,TreeOwn.keeps (KeepsN.of_below hb6) _ _ hT5⟩
 have hs6:w6.heap.size=w5.heap.size+1:=by rw[← hW6];simp
 have h6:=h5.below hb6;have hR6:=hR5.below hb6 hR5.lt;have P6:=P5.trans (PM.of_below hb6)
 replace X3:=X3.below hb6
 obtain⟨v6,hv6⟩:∃ vv,vv=v5:=⟨_,rfl⟩
 have HV6:=HV5;rw[← hv6]at h6 P6 HV6
 try rw[← hs6]
 clear hv6 hW6 hT5 hs6;clear hk2;refine(leaf_any E hE v6 _ h6 v5.st.k 0 [] (w.heap.size+1)).mono ?_;rintro e w7 ⟨rfl,hb7,hT7⟩;have h7:=h6.below hb7;have hR7:=hR6.below hb7 hR6.lt;have P7:=P6.trans (PM.of_below hb7)
 replace X3:=(X3.below hb7).weak (Q:=fun g=>w.heap.size+1≤g∧g≠w7.heap.size) (fun g _ hp=>⟨hp,by omega⟩)
 replace X5:=(X5.below hb7).weak (Q:=fun g=>w.heap.size+1≤g∧g≠w7.heap.size) (fun g _ hp=>⟨hp,by omega⟩)
 have hg3:=X3.1.lt;have hg5:=X5.1.lt;have hlt7:=hR7.lt;clear hb7
 go_wp2_with fail
 generalize hW8:w7.alloc (.cells #[.int .i64 0,.string (mkS []),.int .i64 (nodeAt E.l v6.st v5.st.k []),.int .i64 (v6.st.last:Int),.slice none 0 0] 24)=w8
 have hb8:Below w7.heap.size w7 w8:=by rw[← hW8];exact below_alloc _ _
 have X8:Boxed w8 _ w7.heap.size (nodeM E.l v6.st v5.st.k 0 [] []) (.int .i64 0) (.string (mkS [])) (.int .i64 (nodeAt E.l v6.st v5.st.k [])) (.int .i64 (v6.st.last:Int)) (.slice none 0 0):=⟨by rw[← hW8];exact Blk.new w7 _ _,TreeOwn.keeps (KeepsN.of_below hb8) _ _ hT7⟩
 have h8:=h7.below hb8;have hR8:=hR7.below hb8 hR7.lt;have P8:=P7.trans (PM.of_below hb8)
 replace X3:=X3.below hb8
 replace X5:=X5.below hb8
 obtain⟨v8,hv8⟩:∃ vv,vv=v6:=⟨_,rfl⟩
 have HV8:=HV6;rw[← hv8]at h8 P8 HV8;clear hv8 hW8 hT7
 cases b1
 case true =>
  refine(accept_yes E hE v8 _ h8 HV8.out [101,108,115,101] HB1.out).mono ?_;rintro e w9 ⟨rfl,v9,hv9,h9,hm9⟩;have HV9:=kH hv9;have hR9:=hm9.blk h8 hR8;have P9:=P8.trans hm9
  replace X3:=X3.pm hm9 h8
  replace X5:=X5.pm hm9 h8
  replace X8:=X8.pm hm9 h8
  clear hv9 hm9
  go_wp2_with fail
  refine(is_to E hE v9 _ h9 HV9.out [105,102] HB2.out).mono ?_;rintro e w10 ⟨rfl,v10,hv10,h10,hm10⟩;have HV10:=kH hv10;have hR10:=hm10.blk h9 hR9;have P10:=P9.trans hm10
  replace X3:=X3.pm hm10 h9
  replace X5:=X5.pm hm10 h9
  replace X8:=X8.pm hm10 h9
  clear hv10 hm10
  cases b2
  case true =>
   obtain⟨x31,q31,hz,hrq⟩:∃ x q1,parM E.bs E.l f .branch (readM E.l q5)=some ([x],q1)∧(t,q)=(nodeM E.l q1 v.st.k 14 [] [x3,x5,x],q1):=by
    have:=HR.out;rw[HB1.out,if_pos rfl,HB2.out,if_pos rfl]at this;obtain⟨x,p,h1,h2⟩:=one_some this;simp at h2;exact⟨x,p,h1,by rw[← h2.1,← h2.2]⟩
   have HZ:=kH hz;have HRES:=kH hrq;clear hz hrq HR;have HC3:=kH (HA.out.branch v10 w10 x31 q31 h10 (by rw[HV10.out];exact is_not5 HB2.out) (by rw[HV10.out];exact HZ.out));have hg10:=X8.1.lt
   go_wp2_with fail
   refine(HC3.out).mono ?_;rintro e w31 ⟨k31,t31,a31,z31,A31,n31,c31,rfl,hT31,v31,hv31,h31,hm31⟩
   try dsimp only at hv31 hT31
   have HV31:=kH hv31;have hR31:=hm31.blk h10 hR10;have P31:=P10.trans hm31
   replace hT31:=TreeOwn.weak (Q:=fun g=>w.heap.size+1≤g∧g≠w7.heap.size) (fun g _ hg=>⟨Nat.le_trans hR10.lt hg,by omega⟩) _ _ hT31
   have hX31:=hm31.blk h10 X8.1
   replace X3:=X3.pm hm31 h10
   replace X5:=X5.pm hm31 h10
   obtain⟨⟨q0,q1',q2',q3,q4⟩,qg0,qg1,qg2,qg3,qg4⟩:=hX31.five;have hl31:=hX31.lt;clear hv31 hm31 X8;obtain⟨⟨qaX3,qbX3,qcX3,qdX3,qeX3⟩,qgX3,qhX3,qiX3,qjX3,qkX3⟩:=X3.1.five;have qlX3:=X3.1.lt;obtain⟨⟨qaX5,qbX5,qcX5,qdX5,qeX5⟩,qgX5,qhX5,qiX5,qjX5,qkX5⟩:=X5.1.five;have qlX5:=X5.1.lt
   go_wp2_with fail
   clear qaX3 qbX3 qcX3 qdX3 qeX3 qgX3 qhX3 qiX3 qjX3 qkX3 qlX3;clear qaX5 qbX5 qcX5 qdX5 qeX5 qgX5 qhX5 qiX5 qjX5 qkX5 qlX5;obtain⟨h32,P32,hB32,hk32⟩:=store_box h31 P31 hX31 (by omega) (.int .i64 k31) (.string t31) (.int .i64 a31) (.int .i64 z31) (.slice A31 n31 c31);have hR32:=hR31.keep (hk32 w.heap.size _ (by omega) hR31)
   have X31:Boxed _ _ _ _ (.int .i64 k31) (.string t31) (.int .i64 a31) (.int .i64 z31) (.slice A31 n31 c31):=⟨hB32,TreeOwn.keeps (w':=set5 w31 w7.heap.size (.int .i64 k31) (.string t31) (.int .i64 a31) (.int .i64 z31) (.slice A31 n31 c31)) (fun g cs hP hc=>hk32 g cs hP.2 hc) _ _ hT31⟩
   replace X3:=(X3.store hk32 (fun x hx=>hx.2) (by omega)).weak (Q:=fun g=>w.heap.size+1≤g) (fun g _ hp=>hp.1)
   replace X5:=(X5.store hk32 (fun x hx=>hx.2) (by omega)).weak (Q:=fun g=>w.heap.size+1≤g) (fun g _ hp=>hp.1)
   replace X31:=X31.weak (Q:=fun g=>w.heap.size+1≤g) (fun g _ hp=>hp.1)
   obtain⟨w32,hw32⟩:∃ W,set5 w31 w7.heap.size (.int .i64 k31) (.string t31) (.int .i64 a31) (.int .i64 z31) (.slice A31 n31 c31)=W:=⟨_,rfl⟩
   have hs32:w32.heap.size=w31.heap.size:=by rw[← hw32];simp[set5]
   rw[hw32]at h32 P32 hR32 X31 X3 X5;unfold set5 at hw32;rw[hw32,← hs32]
   obtain⟨v32,hv32⟩:∃ vv,vv=v31:=⟨_,rfl⟩
   have HV32:=HV31;rw[← hv32]at h32 P32 HV32;clear hv32 hB32 hk32 hT31 hX31 q0 q1' q2' q3 q4 qg0 qg1 qg2 qg3 qg4 hl31 hw32 hs32;have HK33:=kH (kids_lit3 X3.2 X5.2 X31.2 (by have:=hR32.lt;omega))
   generalize hW33:w32.alloc (.cells #[.int .i64 k3,.string t3,.int .i64 a3,.int .i64 z3,.slice A3 n3 c3,.int .i64 k5,.string t5,.int .i64 a5,.int .i64 z5,.slice A5 n5 c5,.int .i64 k31,.string t31,.int .i64 a31,.int .i64 z31,.slice A31 n31 c31] 24)=w33 at HK33 ⊢
   have hb33:Below w32.heap.size w32 w33:=by rw[← hW33];exact below_alloc _ _
   have h33:=h32.below hb33;have hR33:=hR32.below hb33 hR32.lt;have P33:=P32.trans (PM.of_below hb33)
   obtain⟨v33,hv33⟩:∃ vv,vv=v32:=⟨_,rfl⟩
   have HV33:=HV32;rw[← hv33]at h33 P33 HV33;clear hv33 hW33;refine(nodek_any E hE v33 _ h33 v.st.k 14 [] (w.heap.size+1) (some ⟨w32.heap.size,0,none⟩) 3 3 [x3,x5,x31] HK33.out).mono ?_;rintro e w34 ⟨rfl,hb34,hT34⟩;have h34:=h33.below hb34;have hR34:=hR33.below hb34 hR33.lt;obtain⟨⟨r0,r1,r2,r3,r4⟩,g0,g1,g2,g3,g4⟩:=hR34.five
   go_wp2_with fail
   have HEND:=kH (tree_end (v:=v) h34 (P33.trans (PM.of_below hb34)) rfl hR34 hgl hT34);clear hT34;refine bodyPost_ret (v:=.agg #[.int .i64 14,.string (mkS []),.int .i64 (nodeAt E.l v33.st v.st.k [x3,x5,x31]),.int .i64 (v33.st.last:Int),.slice (some ⟨w32.heap.size,0,none⟩) 3 3]) (by simp[results,Tryz.results135,go_sem,r0,r1,r2,r3,r4]) rfl ?_;exact Eq.mp (congrArg (fun r=>TreeRes E w v r _ _) (show (nodeM E.l v33.st v.st.k 14 [] [x3,x5,x31],v33.st)=_ by rw[HRES.out,HV33.out])) HEND.out
  case false =>
   obtain⟨x31,q31,hz,hrq⟩:∃ x q1,parM E.bs E.l f .block (readM E.l q5)=some ([x],q1)∧(t,q)=(nodeM E.l q1 v.st.k 14 [] [x3,x5,x],q1):=by
    have:=HR.out;rw[HB1.out,if_pos rfl,HB2.out,if_neg (by simp)]at this;obtain⟨x,p,h1,h2⟩:=one_some this;simp at h2;exact⟨x,p,h1,by rw[← h2.1,← h2.2]⟩
   have HZ:=kH hz;have HRES:=kH hrq;clear hz hrq HR;have HC3:=kH (HA.out.block v10 w10 x31 q31 h10 (by rw[HV10.out];exact HZ.out));have hg10:=X8.1.lt
   go_wp2_with fail
   refine(HC3.out).mono ?_;rintro e w31 ⟨k31,t31,a31,z31,A31,n31,c31,rfl,hT31,v31,hv31,h31,hm31⟩
   try dsimp only at hv31 hT31
   have HV31:=kH hv31;have hR31:=hm31.blk h10 hR10;have P31:=P10.trans hm31
   replace hT31:=TreeOwn.weak (Q:=fun g=>w.heap.size+1≤g∧g≠w7.heap.size) (fun g _ hg=>⟨Nat.le_trans hR10.lt hg,by omega⟩) _ _ hT31
   have hX31:=hm31.blk h10 X8.1
   replace X3:=X3.pm hm31 h10
   replace X5:=X5.pm hm31 h10
   obtain⟨⟨q0,q1',q2',q3,q4⟩,qg0,qg1,qg2,qg3,qg4⟩:=hX31.five;have hl31:=hX31.lt;clear hv31 hm31 X8;obtain⟨⟨qaX3,qbX3,qcX3,qdX3,qeX3⟩,qgX3,qhX3,qiX3,qjX3,qkX3⟩:=X3.1.five;have qlX3:=X3.1.lt;obtain⟨⟨qaX5,qbX5,qcX5,qdX5,qeX5⟩,qgX5,qhX5,qiX5,qjX5,qkX5⟩:=X5.1.five;have qlX5:=X5.1.lt
   go_wp2_with fail
   clear qaX3 qbX3 qcX3 qdX3 qeX3 qgX3 qhX3 qiX3 qjX3 qkX3 qlX3;clear qaX5 qbX5 qcX5 qdX5 qeX5 qgX5 qhX5 qiX5 qjX5 qkX5 qlX5;obtain⟨h32,P32,hB32,hk32⟩:=store_box h31 P31 hX31 (by omega) (.int .i64 k31) (.string t31) (.int .i64 a31) (.int .i64 z31) (.slice A31 n31 c31);have hR32:=hR31.keep (hk32 w.heap.size _ (by omega) hR31)
   have X31:Boxed _ _ _ _ (.int .i64 k31) (.string t31) (.int .i64 a31) (.int .i64 z31) (.slice A31 n31 c31):=⟨hB32,TreeOwn.keeps (w':=set5 w31 w7.heap.size (.int .i64 k31) (.string t31) (.int .i64 a31) (.int .i64 z31) (.slice A31 n31 c31)) (fun g cs hP hc=>hk32 g cs hP.2 hc) _ _ hT31⟩
   replace X3:=(X3.store hk32 (fun x hx=>hx.2) (by omega)).weak (Q:=fun g=>w.heap.size+1≤g) (fun g _ hp=>hp.1)
   replace X5:=(X5.store hk32 (fun x hx=>hx.2) (by omega)).weak (Q:=fun g=>w.heap.size+1≤g) (fun g _ hp=>hp.1)
   replace X31:=X31.weak (Q:=fun g=>w.heap.size+1≤g) (fun g _ hp=>hp.1)
   obtain⟨w32,hw32⟩:∃ W,set5 w31 w7.heap.size (.int .i64 k31) (.string t31) (.int .i64 a31) (.int .i64 z31) (.slice A31 n31 c31)=W:=⟨_,rfl⟩
   have hs32:w32.heap.size=w31.heap.size:=by rw[← hw32];simp[set5]
   rw[hw32]at h32 P32 hR32 X31 X3 X5;unfold set5 at hw32;rw[hw32,← hs32]
   obtain⟨v32,hv32⟩:∃ vv,vv=v31:=⟨_,rfl⟩
   have HV32:=HV31;rw[← hv32]at h32 P32 HV32;clear hv32 hB32 hk32 hT31 hX31 q0 q1' q2' q3 q4 qg0 qg1 qg2 qg3 qg4 hl31 hw32 hs32;have HK33:=kH (kids_lit3 X3.2 X5.2 X31.2 (by have:=hR32.lt;omega))
   generalize hW33:w32.alloc (.cells #[.int .i64 k3,.string t3,.int .i64 a3,.int .i64 z3,.slice A3 n3 c3,.int .i64 k5,.string t5,.int .i64 a5,.int .i64 z5,.slice A5 n5 c5,.int .i64 k31,.string t31,.int .i64 a31,.int .i64 z31,.slice A31 n31 c31] 24)=w33 at HK33 ⊢
   have hb33:Below w32.heap.size w32 w33:=by rw[← hW33];exact below_alloc _ _
   have h33:=h32.below hb33;have hR33:=hR32.below hb33 hR32.lt;have P33:=P32.trans (PM.of_below hb33)
   obtain⟨v33,hv33⟩:∃ vv,vv=v32:=⟨_,rfl⟩
   have HV33:=HV32;rw[← hv33]at h33 P33 HV33;clear hv33 hW33;refine(nodek_any E hE v33 _ h33 v.st.k 14 [] (w.heap.size+1) (some ⟨w32.heap.size,0,none⟩) 3 3 [x3,x5,x31] HK33.out).mono ?_;rintro e w34 ⟨rfl,hb34,hT34⟩;have h34:=h33.below hb34;have hR34:=hR33.below hb34 hR33.lt;obtain⟨⟨r0,r1,r2,r3,r4⟩,g0,g1,g2,g3,g4⟩:=hR34.five
   go_wp2_with fail
   have HEND:=kH (tree_end (v:=v) h34 (P33.trans (PM.of_below hb34)) rfl hR34 hgl hT34);clear hT34;refine bodyPost_ret (v:=.agg #[.int .i64 14,.string (mkS []),.int .i64 (nodeAt E.l v33.st v.st.k [x3,x5,x31]),.int .i64 (v33.st.last:Int),.slice (some ⟨w32.heap.size,0,none⟩) 3 3]) (by simp[results,Tryz.results135,go_sem,r0,r1,r2,r3,r4]) rfl ?_;exact Eq.mp (congrArg (fun r=>TreeRes E w v r _ _) (show (nodeM E.l v33.st v.st.k 14 [] [x3,x5,x31],v33.st)=_ by rw[HRES.out,HV33.out])) HEND.out
 have HRES:Hid ((t,q)=(nodeM E.l q5 v.st.k 14 [] [x3,x5,nodeM E.l v6.st v5.st.k 0 [] []],q5)):=kH (by
  have:=HR.out;rw[HB1.out,if_neg (by simp)]at this;simp at this
  rw[HV6.out,HV5.out,← this.1,← this.2])
 clear HR;refine(accept_no E hE v8 _ h8 HV8.out [101,108,115,101] HB1.out).mono ?_;rintro e w9 ⟨rfl,v9,hv9,h9,hm9⟩;have HV9:=kH hv9;have hR9:=hm9.blk h8 hR8;have P9:=P8.trans hm9
 replace X3:=X3.pm hm9 h8
 replace X5:=X5.pm hm9 h8
 replace X8:=X8.pm hm9 h8
 clear hv9 hm9;obtain⟨⟨qaX3,qbX3,qcX3,qdX3,qeX3⟩,qgX3,qhX3,qiX3,qjX3,qkX3⟩:=X3.1.five;have qlX3:=X3.1.lt;obtain⟨⟨qaX5,qbX5,qcX5,qdX5,qeX5⟩,qgX5,qhX5,qiX5,qjX5,qkX5⟩:=X5.1.five;have qlX5:=X5.1.lt;obtain⟨⟨qaX8,qbX8,qcX8,qdX8,qeX8⟩,qgX8,qhX8,qiX8,qjX8,qkX8⟩:=X8.1.five;have qlX8:=X8.1.lt
 go_wp2_with fail
 clear qaX3 qbX3 qcX3 qdX3 qeX3 qgX3 qhX3 qiX3 qjX3 qkX3 qlX3;clear qaX5 qbX5 qcX5 qdX5 qeX5 qgX5 qhX5 qiX5 qjX5 qkX5 qlX5;clear qaX8 qbX8 qcX8 qdX8 qeX8 qgX8 qhX8 qiX8 qjX8 qkX8 qlX8;have HK10:=kH (kids_lit3 (TreeOwn.weak (Q:=fun g=>w.heap.size+1≤g) (fun g _ hp=>hp.1) _ _ X3.2) (TreeOwn.weak (Q:=fun g=>w.heap.size+1≤g) (fun g _ hp=>hp.1) _ _ X5.2) X8.2 (by have:=hR9.lt;omega))
 generalize hW10:w9.alloc (.cells #[.int .i64 k3,.string t3,.int .i64 a3,.int .i64 z3,.slice A3 n3 c3,.int .i64 k5,.string t5,.int .i64 a5,.int .i64 z5,.slice A5 n5 c5,.int .i64 0,.string (mkS []),.int .i64 (nodeAt E.l v6.st v5.st.k []),.int .i64 (v6.st.last:Int),.slice none 0 0] 24)=w10 at HK10 ⊢
 have hb10:Below w9.heap.size w9 w10:=by rw[← hW10];exact below_alloc _ _
 have h10:=h9.below hb10;have hR10:=hR9.below hb10 hR9.lt;have P10:=P9.trans (PM.of_below hb10)
 obtain⟨v10,hv10⟩:∃ vv,vv=v9:=⟨_,rfl⟩
 have HV10:=HV9;rw[← hv10]at h10 P10 HV10;clear hv10 hW10;refine(nodek_any E hE v10 _ h10 v.st.k 14 [] (w.heap.size+1) (some ⟨w9.heap.size,0,none⟩) 3 3 [x3,x5,nodeM E.l v6.st v5.st.k 0 [] []] HK10.out).mono ?_;rintro e w11 ⟨rfl,hb11,hT11⟩;have h11:=h10.below hb11;have hR11:=hR10.below hb11 hR10.lt;obtain⟨⟨r0,r1,r2,r3,r4⟩,g0,g1,g2,g3,g4⟩:=hR11.five
 go_wp2_with fail
 have HEND:=kH (tree_end (v:=v) h11 (P10.trans (PM.of_below hb11)) rfl hR11 hgl hT11);clear hT11;refine bodyPost_ret (v:=.agg #[.int .i64 14,.string (mkS []),.int .i64 (nodeAt E.l v10.st v.st.k [x3,x5,nodeM E.l v6.st v5.st.k 0 [] []]),.int .i64 (v10.st.last:Int),.slice (some ⟨w9.heap.size,0,none⟩) 3 3]) (by simp[results,Tryz.results135,go_sem,r0,r1,r2,r3,r4]) rfl ?_;exact Eq.mp (congrArg (fun r=>TreeRes E w v r _ _) (show (nodeM E.l v10.st v.st.k 14 [] [x3,x5,nodeM E.l v6.st v5.st.k 0 [] []],v10.st)=_ by rw[HRES.out,HV10.out])) HEND.out
theorem answ_all (E:PE) (hE:E.Ok):∀ (f:Nat),∀ f',f'≤f→AnsW E f':=by
 have h0:AnsW E 0:=by
  constructor <;> · intros;rename_i h;simp[parM]at h
 intro f
 induction f with
 | zero =>
  intro f' hf
  have:f'=0:=by omega
  subst this;exact h0
 | succ f ih =>
  intro f' hf
  by_cases he:f'≤f
  ·exact ih f' he
  ·have:f'=f+1:=by omega
   subst this
   exact {
    expr:=fun lv v w t q hpw h1 h7 hr=>by
     by_cases h3:lv=3
     ·subst h3
      exact expr3_any E hE f ih v w t q hpw hr
     ·by_cases hl7:lv=7
      ·subst hl7
       exact expr7_any E hE f ih v w t q hpw hr
      ·exact exprs_any E hE f ih lv h3 hl7 h1 h7 v w t q hpw hr
    operand:=fun v w t q hpw hr=>operand_any E hE f ih v w t q hpw hr
    args:=fun v w kids q hpw h5 hr=>arguments_any E hE f ih v w kids q hpw h5 hr
    place:=fun v w t q hpw hr=>place_any E hE f ih v w t q hpw hr
    stmt:=fun v w t q hpw hr=>stmt_any E hE f ih v w t q hpw hr
    block:=fun v w t q hpw hr=>block_any E hE f ih v w t q hpw hr
    branch:=fun v w t q hpw h5 hr=>branch_any E hE f ih v w t q hpw h5 hr }
theorem answ (E:PE) (hE:E.Ok) (f:Nat):AnsW E f:=answ_all E hE f f (Nat.le_refl _)
end Go.Proofs.YtoepemlnlpamlaaGreat
namespace Go.Proofs.YtoepemlnlpamlaaGreat
set_option maxRecDepth 100000
set_option maxHeartbeats 4000000
def ChainT (n:Nat):Nat→List Tok→Prop
 | _,[]=>False
 | lo,t :: ts=>lo≤t.at_∧t.from_≤t.at_∧t.at_≤t.end_∧t.end_≤n∧((ts = []∧t.kind=5∧t.at_=t.end_)∨(t.kind≤4∧ChainT n t.end_ ts))
theorem ChainT.mono {n:Nat} {lo lo':Nat} (h:lo'≤lo):∀ {l:List Tok},ChainT n lo l→ChainT n lo' l
 | [],hc=>hc
 | _ :: _,hc=>⟨Nat.le_trans h hc.1,hc.2⟩
theorem scan_chain {s:Bytes}:∀ (f a:Nat),a≤s.length→s.length < f+a→ChainT s.length a (scanM s f a):=by
 intro f
 induction f with
 | zero=>intro a h1 h2;omega
 | succ f ih =>
  intro a h1 h2
  obtain⟨k1,hk1⟩:∃ x,skipM s (s.length+1) a=x:=⟨_,rfl⟩
  have hs:=skipM_spec (s:=s) (s.length+1) a h1 (by omega);rw[hk1]at hs;rw[scanM];simp only[hk1];split
  ·rename_i h
   have:k1=s.length:=by omega
   exact⟨hs.1,hs.1,Nat.le_refl _,by simp only;omega,.inl ⟨rfl,rfl,rfl⟩⟩
  ·rename_i h
   have hlt:k1 < s.length:=by omega
   have ht:=tokenM_spec hlt (hs.2.2 hlt).1 (hs.2.2 hlt).2;have e1:=hs.1;have e2:=ht.1;exact⟨hs.1,hs.1,Nat.le_of_lt ht.1,ht.2.1,.inr ⟨ht.2.2,ih _ ht.2.1 (by show s.length < f+(tokenM s k1).2;omega)⟩⟩
theorem filter_chain {n:Nat}:∀ {l:List Tok} {lo:Nat},ChainT n lo l→ChainT n lo (l.filter fun t=>decide (t.kind≠4))
 | [],_,h=>h
 | t :: ts,lo,h=>by
  obtain⟨h1,h2,h3,h4,h5⟩:=h
  rcases h5 with ⟨rfl,h6,h7⟩ | ⟨h6,h7⟩
  ·have:(List.filter (fun t:Tok=>decide (t.kind≠4)) [t]) = [t]:=by simp[h6]
   rw[this];exact⟨h1,h2,h3,h4,.inl ⟨rfl,h6,h7⟩⟩
  ·have hr:=filter_chain h7
   by_cases hk:t.kind=4
   ·rw[List.filter_cons_of_neg (by simp[hk])]
    exact hr.mono (by omega)
   ·rw[List.filter_cons_of_pos (by simp[hk])]
    exact⟨h1,h2,h3,h4,.inr ⟨h6,hr⟩⟩
theorem start_chain (s:Bytes):ChainT s.length 0 (startL s):=filter_chain (scan_chain _ _ (Nat.zero_le _) (by omega))
theorem tkM_cons (t:Tok) (ts:List Tok) (k:Nat):tkM (t :: ts) (k+1)=tkM ts k:=by simp[tkM]
theorem tkM_zero (t:Tok) (ts:List Tok):tkM (t :: ts) 0=t:=by simp[tkM]
theorem chain_ends {n:Nat}:∀ {l:List Tok} {lo:Nat},ChainT n lo l→Ends l
 | [],_,h=>h.elim
 | t :: ts,lo,h=>by
  intro k hk hne;obtain⟨_,_,_,_,h5⟩:=h
  cases k with
  | zero =>
   rw[tkM_zero]at hne
   rcases h5 with ⟨_,h6,_⟩ | ⟨_,h7⟩
   ·exact absurd h6 hne
   ·cases ts with
    | nil=>exact h7.elim
    | cons _ _=>simp
  | succ k =>
   rw[tkM_cons]at hne
   rcases h5 with ⟨rfl,_,_⟩ | ⟨_,h7⟩
   ·simp at hk
   ·have:=chain_ends h7 k (by simpa using hk) hne
    simp only[List.length_cons];omega
theorem chain_five {n:Nat}:∀ {l:List Tok} {lo:Nat},ChainT n lo l→∀ k,(tkM l k).kind=5→(tkM l k).at_=(tkM l k).end_
 | [],_,h,_,_=>h.elim
 | t :: ts,lo,h,k,hk=>by
  obtain⟨_,_,_,_,h5⟩:=h
  cases k with
  | zero =>
   rw[tkM_zero]at hk ⊢
   rcases h5 with ⟨_,_,h7⟩ | ⟨h6,_⟩
   ·exact h7
   ·omega
  | succ k =>
   rw[tkM_cons]at hk ⊢
   rcases h5 with ⟨rfl,_,_⟩ | ⟨_,h7⟩
   ·simp[tkM,tokD]
   ·exact chain_five h7 k hk
theorem chain_empty {n:Nat} {l:List Tok} {lo:Nat} (s:Bytes) (h:ChainT n lo l):EndsEmpty s l:=by
 intro k hk;have:=chain_five h k hk;unfold wordM wordT sub;rw[this];simp
theorem chain_mono {n:Nat}:∀ {l:List Tok} {lo:Nat},ChainT n lo l→∀ k,k+1 < l.length→(tkM l k).at_≤(tkM l (k+1)).at_
 | [],_,h,_,_=>h.elim
 | t :: ts,lo,h,k,hk=>by
  obtain⟨_,_,h3,_,h5⟩:=h
  rcases h5 with ⟨rfl,_,_⟩ | ⟨_,h7⟩
  ·simp at hk
  ·cases k with
   | zero =>
    cases ts with
    | nil=>exact h7.elim
    | cons u us =>
     rw[tkM_zero,tkM_cons,tkM_zero];have:=h7.1;omega
   | succ k =>
    rw[tkM_cons,tkM_cons];exact chain_mono h7 k (by simpa using hk)
theorem chain_tok {n:Nat}:∀ {l:List Tok} {lo:Nat},ChainT n lo l→∀ t ∈ l,t.from_≤t.at_∧t.at_≤t.end_∧t.end_≤n∧t.kind≤5
 | [],_,h,_,_=>h.elim
 | t :: ts,lo,h,u,hu=>by
  obtain⟨_,h2,h3,h4,h5⟩:=h
  rcases List.mem_cons.1 hu with rfl | hu
  ·refine⟨h2,h3,h4,?_⟩
   rcases h5 with ⟨_,h6,_⟩ | ⟨h6,_⟩ <;> omega
  ·rcases h5 with ⟨rfl,_,_⟩ | ⟨_,h7⟩
   ·cases hu
   ·exact chain_tok h7 u hu
end Go.Proofs.YtoepemlnlpamlaaGreat
namespace Go.Proofs.YtoepemlnlpamlaaGreat
set_option maxRecDepth 100000
set_option maxHeartbeats 4000000
open Go.RowKit
theorem scan_len {s:Bytes}:∀ (f a:Nat),a≤s.length→(scanM s f a).length≤s.length - a+1:=by
 intro f
 induction f with
 | zero=>intro a h1;simp[scanM]
 | succ f ih =>
  intro a h1
  obtain⟨k1,hk1⟩:∃ x,skipM s (s.length+1) a=x:=⟨_,rfl⟩
  have hs:=skipM_spec (s:=s) (s.length+1) a h1 (by omega);rw[hk1]at hs;rw[scanM];simp only[hk1];split
  ·simp
  ·rename_i h
   have hlt:k1 < s.length:=by omega
   have ht:=tokenM_spec hlt (hs.2.2 hlt).1 (hs.2.2 hlt).2;have e1:=hs.1;have e2:=ht.1;have:=ih _ ht.2.1;simp only[List.length_cons];omega
theorem scanAll_len (s:Bytes):(scanAll s).length≤s.length+1:=by
 have:=scan_len (s:=s) (s.length+1) 0 (Nat.zero_le _);unfold scanAll;omega
theorem start_any (s:ByteArray) (w:World) (hs:s.size≤4096):Calls Tryz.prog 64 #[.string s] w fun e w' => ∃ E v,e = .returned (.pointer (some ⟨E.gp,0,none⟩))∧E.Ok∧E.bs=s.data.toList∧E.l=startL s.data.toList∧E.lo=w.heap.size∧v.st=⟨0,0,[]⟩∧PW w' E v∧Below w.heap.size w w':=by
 obtain⟨i0,hi0,hz0,hz1,hz2⟩:=info_parts tok_info
 go_enter Tryz.func64,Tryz.ntmps64
 go_wp2_with fail
 generalize hW1:w.alloc (.cells #[.string s,.slice none 0 0,.int .i64 0,.int .i64 0,.slice none 0 0] 130)=W1
 have hb1:Below w.heap.size w W1:=by rw[← hW1];exact below_alloc _ _
 have hR1:Blk W1 w.heap.size 130 #[.string s,.slice none 0 0,.int .i64 0,.int .i64 0,.slice none 0 0]:=by rw[← hW1];exact Blk.new w _ _
 have hs1:W1.heap.size=w.heap.size+1:=by rw[← hW1];simp
 refine(Scan_any s W1 hs).mono ?_;rintro e w2 ⟨vl,rfl,hO2,hb2⟩;have hR2:=hR1.below hb2 hR1.lt;have hb02:=hb1.trans (hb2.mono hb1.size)
 obtain⟨l,hl⟩:∃ l,scanAll s.data.toList=l:=⟨_,rfl⟩
 rw[hl]at hO2;obtain⟨Al,cl,rfl,-,-⟩:=hO2.shape;have HO2:=kH hO2;have HR2:=kH hR2;have HB2:=kH hb02;have HL:=kH hl
 have hll:l.length≤4097:=by
  have:=scanAll_len s.data.toList;rw[HL.out,len_size]at this;omega
 have hlt2:=hR2.lt;clear hW1 hb1 hR1 hs1 hb2 hO2 hR2 hb02 hl
 go_wp2_with fail
 go_loopg [6] l.length (fun gk s5 wr => ∃ (k:Nat) (A:Option Addr) (n c:Nat),k+gk=l.length∧s5 = .int .i64 (k:Int)∧n=((l.take k).filter fun t=>decide (t.kind≠4)).length∧Blk wr w.heap.size 130 #[.string s,.slice A n c,.int .i64 0,.int .i64 0,.slice none 0 0]∧OwnS wr w2.heap.size 186 4 (.slice A n c) n (((l.take k).filter fun t=>decide (t.kind≠4)).flatMap tokCells)∧Since (fun g=>g=w.heap.size) w2 wr)
 case atStart=>exact⟨0,none,0,0,by omega,rfl,rfl,HR2.out,OwnS.nil _ _ _ _,Since.refl _ _⟩
 case round =>
  obtain⟨k,A,n,c,hk,rfl,hn,hR,hO,hS⟩:=hrel;have HN:=kH hn;have HR:=kH hR;have HO:=kH hO;have HS:=kH hS;have hgr:=hR.lt;have hc1:wr.cell? ⟨w.heap.size,1,none⟩=some (.slice A n c):=hR.cell 1;have hfz:=hR.frozen 1;have hOl:=HO2.out.since hS (fun g hg e1=>HO2.out.ne_blk HR2.out (by decide) (by rw[hg,e1]));have HOL:=kH hOl
  have hnk:n≤k:=by rw[hn];exact Nat.le_trans (List.length_filter_le _ _) (by simp;omega)
  clear hn hR hO hS hOl
  by_cases hkl:k < l.length
  ·obtain⟨tk,htk⟩:∃ x,l[k]? = some x:=⟨_,List.getElem?_eq_getElem hkl⟩
   obtain⟨b,off,hA,hb,hcs⟩:=HOL.out.rowAt (cells:=tokCells) (l:=l) rfl rfl (by intro c _;rfl) rfl k tk htk;subst hA;have t0:wr.cell? ⟨b,off+k * 4,none⟩=some (.int .i64 (tk.kind:Int)):=hcs 0 _ rfl;have t1:wr.cell? ⟨b,off+k * 4+1,none⟩=some (.int .i64 (tk.from_:Int)):=hcs 1 _ rfl;have t2:wr.cell? ⟨b,off+k * 4+2,none⟩=some (.int .i64 (tk.at_:Int)):=hcs 2 _ rfl;have t3:wr.cell? ⟨b,off+k * 4+3,none⟩=some (.int .i64 (tk.end_:Int)):=hcs 3 _ rfl;have HTK:=kH htk;have hwr:IntKind.i64.wrap ((k:Int)+1)=(k:Int)+1:=IntWalk.i64_in _ (by omega);clear hcs htk
   by_cases h4:tk.kind=4
   ·have hki:((tk.kind:Int) != 4)=false:=by simp;omega
    have H4:=kH h4;clear h4
    go_wp2_with fail
    have e1:(l.take (k+1)).filter (fun t=>decide (t.kind≠4))=(l.take k).filter fun t=>decide (t.kind≠4):=by
     rw[List.take_add_one,HTK.out,List.filter_append];simp[H4.out]
    go_roundg (gk - 1)
    case measure=>omega
    case rel=>exact⟨k+1,A,n,c,by omega,by simp,by rw[e1];exact HN.out,HR.out,by rw[e1];exact HO.out,HS.out⟩
   ·have hki:((tk.kind:Int) != 4)=true:=by simp;omega
    have H4:=kH h4;have hne:(Value.slice A n c).ownBlock≠some w.heap.size:=HO.out.ne_blk HR.out (by decide)
    have hnb:(Value.slice A n c).ownBlock≠some b:=fun e1=>by
     have h1:=(HO.out.lt _ e1).1;have h2:=(HO2.out.lt b rfl).2;omega
    have HNE:=kH hne;have HNB:=kH hnb;have hzr:=HS.out.size;clear h4 hne hnb
    go_wp2_with fail
    refine wp_region_HS (fun w'=>w'.cell? ⟨w.heap.size,1,none⟩=some (.slice A n c)∧w'.cell? ⟨b,off+k * 4,none⟩=some (.int .i64 (tk.kind:Int))∧w'.cell? ⟨b,off+k * 4+1,none⟩=some (.int .i64 (tk.from_:Int))∧w'.cell? ⟨b,off+k * 4+2,none⟩=some (.int .i64 (tk.at_:Int))∧w'.cell? ⟨b,off+k * 4+3,none⟩=some (.int .i64 (tk.end_:Int))) [9] [true,true,true,true,true,true,false,false,false,false] (by kernel_rfl) (by kernel_rfl) rfl (by kernel_rfl) ?_
    have hS0:wr.drew.cell? ⟨w.heap.size,1,none⟩=some (.slice A n c)∧wr.drew.cell? ⟨b,off+k * 4,none⟩=some (.int .i64 (tk.kind:Int))∧wr.drew.cell? ⟨b,off+k * 4+1,none⟩=some (.int .i64 (tk.from_:Int))∧wr.drew.cell? ⟨b,off+k * 4+2,none⟩=some (.int .i64 (tk.at_:Int))∧wr.drew.cell? ⟨b,off+k * 4+3,none⟩=some (.int .i64 (tk.end_:Int)):=⟨hc1,t0,t1,t2,t3⟩
    iterate 6(refine wpHS_soft rfl hS0 (by intro w' hSw;obtain⟨hs1,hs2,hs3,hs4,hs5⟩:=hSw;go_simp;rfl) ?_;simp only[Act.put,sA,sZ,sC])
    refine wpHS_run (w':=wr.drew.alloc (.cells #[.int .i64 (tk.kind:Int),.int .i64 (tk.from_:Int),.int .i64 (tk.at_:Int),.int .i64 (tk.end_:Int)] 186)) rfl (by go_simp;rfl) ?_ ?_
    ·exact fun _=>⟨by go_simp,by go_simp,by go_simp,by go_simp,by go_simp⟩
    simp only[Act.put,sA,sZ,sC];refine wpHS_law rfl (wp_append_S _ (.tmp 27) (.tmp 32) _ rfl w2.heap.size 186 i0 _ 4 32 Tryz.underlying128 hi0 hz0 hz1 hz2 rfl (.slice A n c) n (((l.take k).filter fun t=>decide (t.kind≠4)).flatMap tokCells) rfl (HO.out.drew.alloc _) ⟨wr.heap.size,0,none⟩ 1 1 (tokCells tk) rfl rfl (news_four _ _ _ _ _ _ (by go_simp) (by go_simp) (by go_simp) (by go_simp)) (by simp[tokCells,Value.oneCell']) (by simp only[maxLen];omega) (by omega) (by simp;omega) ?_);intro v3 w3 hown3 hgrow3 hat3;obtain⟨A3,c3,hv3,-,-⟩:=hown3.shape;subst hv3;have hz3:=hgrow3.size;simp at hz3
    have q0:w3.cell? ⟨w.heap.size,1,none⟩=some (.slice A n c):=by
     rw[hgrow3.cell_far _ (by simp;omega) (fun e1=>HNE.out e1.symm)]
     go_simp
    have q1:w3.cell? ⟨b,off+k * 4,none⟩=some (.int .i64 (tk.kind:Int)):=by
     rw[hgrow3.cell_far _ (by simp;omega) (fun e1=>HNB.out e1.symm)]
     go_simp
    have q2:w3.cell? ⟨b,off+k * 4+1,none⟩=some (.int .i64 (tk.from_:Int)):=by
     rw[hgrow3.cell_far _ (by simp;omega) (fun e1=>HNB.out e1.symm)]
     go_simp
    have q3:w3.cell? ⟨b,off+k * 4+2,none⟩=some (.int .i64 (tk.at_:Int)):=by
     rw[hgrow3.cell_far _ (by simp;omega) (fun e1=>HNB.out e1.symm)]
     go_simp
    have q4:w3.cell? ⟨b,off+k * 4+3,none⟩=some (.int .i64 (tk.end_:Int)):=by
     rw[hgrow3.cell_far _ (by simp;omega) (fun e1=>HNB.out e1.symm)]
     go_simp
    have hB3:=Blk.grown (Blk.alloc (Blk.drew HR.out) (.cells #[.int .i64 (tk.kind:Int),.int .i64 (tk.from_:Int),.int .i64 (tk.at_:Int),.int .i64 (tk.end_:Int)] 186)) hgrow3 (fun e1=>HNE.out e1.symm);have q5:=hB3.frozen 1;have HB3:=kH hB3;clear hB3;refine⟨fun _=>⟨q0,q1,q2,q3,q4⟩,?_⟩;simp only[Act.put,sA,sZ,sC];refine wpHS_run (w':=w3) rfl (by go_simp;rfl) (fun _=>⟨q0,q1,q2,q3,q4⟩) ?_;simp only[Act.put,sA,sZ,sC];refine wpHS_skip (w':=w3.setCell ⟨w.heap.size,1,none⟩ (.slice A3 (n+1) c3)) rfl (by go_simp) (by simp) ?_;refine wpHS_nil ?_;simp only[Act.put];have HOWN3:=kH hown3;have HGROW3:=kH hgrow3;clear hown3 hgrow3 hat3
    go_wp2_with fail
    have e1:(l.take (k+1)).filter (fun t=>decide (t.kind≠4))=((l.take k).filter fun t=>decide (t.kind≠4)) ++ [tk]:=by
     rw[List.take_add_one,HTK.out,List.filter_append];simp[H4.out]
    have hB4:=HB3.out.set_ 1 (.slice A3 (n+1) c3)
    go_roundg (gk - 1)
    case measure=>omega
    case rel =>
     refine⟨k+1,A3,n+1,c3,by omega,by simp,by rw[e1,List.length_append,← HN.out];rfl,by simpa using hB4,?_,?_⟩
     ·rw[e1,List.flatMap_append]
      have hne3:(Value.slice A3 (n+1) c3).ownBlock≠some w.heap.size:=HOWN3.out.ne_blk HB3.out (by decide)
      simpa using HOWN3.out.setCell hne3 (p:=⟨w.heap.size,1,none⟩) (.slice A3 (n+1) c3)
     ·exact((HS.out.drew.alloc _).grown HGROW3.out (fun g hg=>.inr (HO.out.lt g hg).1)).setCell (.inl rfl) _
  ·go_wp2_with fail
   have hke:k=l.length:=by omega
   have hlf:(l.take k).filter (fun t=>decide (t.kind≠4))=startL s.data.toList:=by
    rw[hke,List.take_length];unfold startL;rw[HL.out]
   have hch:=start_chain s.data.toList;have hsl:s.data.toList.length=s.size:=len_size s
   have hn0:(startL s.data.toList).length=n:=by rw[HN.out,hlf]
   have hpos:0 < n:=by
    rw[← hn0]
    cases hq:startL s.data.toList with
    | nil=>rw[hq]at hch;exact hch.elim
    | cons x xs=>simp
   refine bodyPost_ret (v:=.pointer (some ⟨w.heap.size,0,none⟩)) (by simp[results,Tryz.results64,go_sem]) rfl ?_;refine⟨⟨w.heap.size,w.heap.size,s,startL s.data.toList,A,n,c⟩,⟨⟨0,0,[]⟩,.slice none 0 0⟩,rfl,⟨hn0,by show n≤5000;omega,hs,?_,chain_ends hch,chain_empty _ hch,chain_mono hch,Nat.le_refl _⟩,rfl,rfl,rfl,rfl,⟨HR.out,OwnS.nil _ _ _ _,?_,hpos,⟨List.Pairwise.nil,by simp⟩,by simp⟩,?_⟩
   ·intro t ht
    have:=chain_tok hch t ht;rw[hsl]at this;exact this
   ·have:=HO.out
    rw[hlf]at this;exact this.mono (by have:=HB2.out.size;omega)
   ·exact HB2.out.trans (HS.out.toBelow (by have:=HB2.out.size;omega) (fun g hg=>by omega))
end Go.Proofs.YtoepemlnlpamlaaGreat
