/- The law NamesFreeAt holds: for every text and every number the law returns true, and its arguments read as before. No condition. Part 9: ParI ParJ ParK ParL Step. -/
import Derived.Test.YtoepemlnlpamlaaGreatFreeAt08
namespace Go.Proofs.YtoepemlnlpamlaaGreat
set_option maxRecDepth 100000
set_option maxHeartbeats 4000000
open Go.RowKit
theorem expr3_any (E:PE) (hE:E.Ok) (f:Nat) (IH:∀ f',f'≤f→AnsW E f') (v:PV) (w:World) (t:Tree) (q:PS) (hpw:PW w E v) (hr:parM E.bs E.l (f+1) (.expr 3) v.st=some ([t],q)):Calls Tryz.prog 134 #[.pointer (some ⟨E.gp,0,none⟩),.int .i64 3] w (TreeRes E w v (t,q)):=by
 rw[parM,if_pos rfl]at hr;have HR:=kH hr;have HIH:=kH IH;clear hr IH;have hgl:=hpw.blk.lt;have hk2:w.cell? ⟨E.gp,2,none⟩=some (.int .i64 (v.st.k:Int)):=hpw.blk.cell 2
 go_enter Tryz.func134,Tryz.ntmps134
 go_wp2_with fail
 generalize hW1:w.alloc (.cells #[.int .i64 0,.string ⟨#[]⟩,.int .i64 0,.int .i64 0,.slice none 0 0] 24)=W1
 have hb1:Below w.heap.size w W1:=by rw[← hW1];exact below_alloc _ _
 have hR1:Blk W1 w.heap.size 24 #[.int .i64 0,.string ⟨#[]⟩,.int .i64 0,.int .i64 0,.slice none 0 0]:=by rw[← hW1];exact Blk.new w _ _
 have hs1:W1.heap.size=w.heap.size+1:=by rw[← hW1];simp
 have hm1:=PM.of_below (E:=E) (v:=v) hb1;have h1:=hpw.below hb1;have P1:=hm1;have HS1:=kH hs1;have HM1:=kH hm1;clear hW1 hs1 hm1 hb1
 obtain⟨b0,hb0⟩:∃ x,isM E.bs E.l v.st [110,111,116] = x:=⟨_,rfl⟩
 have HB0:=kH hb0;clear hb0 hk2;refine(accept_any E hE v [110,111,116] _ h1).mono ?_;rintro e w2 ⟨rfl,v2,hv2,h2,hm2⟩;rw[HB0.out];have HV2:=kH hv2;have hR2:=hm2.blk h1 hR1;have P2:=P1.trans hm2;clear hv2 hm2
 cases b0
 ·have hst:v2.st=v.st:=by
   rw[HV2.out];unfold acceptM;rw[HB0.out,if_neg (by simp)]
  have hx:parM E.bs E.l f (.expr 4) v2.st=some ([t],q):=by
   have:=HR.out;rw[HB0.out,if_neg (by simp)]at this;rw[hst];exact this
  have hcall:=(HIH.out f (Nat.le_refl _)).expr 4 v2 w2 t q h2 (by omega) (by omega) hx;have HCALL:=kH hcall;clear hst hx hcall
  go_wp2_with fail
  refine(HCALL.out).mono ?_;rintro e w3 ⟨k3,t3,a3,z3,A3,n3,c3,rfl,hT3,v3,hv3,h3,hm3⟩;have HV3:=kH hv3;have hR3:=hm3.blk h2 hR2;have P3:=P2.trans hm3
  replace hT3:=TreeOwn.weak (Q:=fun g=>w.heap.size+1≤g) (fun g _ hg=>Nat.le_trans hR2.lt hg) _ _ hT3
  clear hv3;have HRES:=trivial;obtain⟨⟨r0,r1,r2,r3,r4⟩,g0,g1,g2,g3,g4⟩:=hR3.five
  go_wp2_with fail
  have HEND:=kH (tree_end (v:=v) h3 P3 rfl hR3 hgl hT3);clear hT3;rw[HV3.out]at HEND;refine bodyPost_ret (v:=.agg #[.int .i64 k3,.string t3,.int .i64 a3,.int .i64 z3,.slice A3 n3 c3]) (by simp[results,Tryz.results134,go_sem,r0,r1,r2,r3,r4]) rfl ?_
  try rw[HRES.out]
  exact HEND.out
 ·have hst:v2.st=readM E.l v.st:=by
   rw[HV2.out];unfold acceptM;rw[HB0.out,if_pos rfl]
  obtain⟨x3,q3,hx,hrq⟩:∃ x3 q3,parM E.bs E.l f (.expr 3) v2.st=some ([x3],q3)∧(t,q)=(nodeM E.l q3 v.st.k 28 [110,111,116] [x3],q3):=by
   have:=HR.out;rw[HB0.out,if_pos rfl]at this;obtain⟨x,p,h1,h2⟩:=one_some this;simp at h2;exact⟨x,p,by rw[hst];exact h1,by rw[← h2.1,← h2.2]⟩
  have hcall:=(HIH.out f (Nat.le_refl _)).expr 3 v2 w2 x3 q3 h2 (by omega) (by omega) hx;have HCALL:=kH hcall;have HRES:=kH hrq;clear hst hx hcall hrq
  go_wp2_with fail
  refine(HCALL.out).mono ?_;rintro e w3 ⟨k3,t3,a3,z3,A3,n3,c3,rfl,hT3,v3,hv3,h3,hm3⟩;have HV3:=kH hv3;have hR3:=hm3.blk h2 hR2;have P3:=P2.trans hm3
  replace hT3:=TreeOwn.weak (Q:=fun g=>w.heap.size+1≤g) (fun g _ hg=>Nat.le_trans hR2.lt hg) _ _ hT3
  clear hv3
  go_wp2_with fail
  generalize hW4:w3.alloc (.cells #[.int .i64 k3,.string t3,.int .i64 a3,.int .i64 z3,.slice A3 n3 c3] 24)=w4
  have hb4:Below w3.heap.size w3 w4:=by rw[← hW4];exact below_alloc _ _
  have hs4:w4.heap.size=w3.heap.size+1:=by rw[← hW4];simp
  have hX4:Blk w4 w3.heap.size 24 #[.int .i64 k3,.string t3,.int .i64 a3,.int .i64 z3,.slice A3 n3 c3]:=by rw[← hW4];exact Blk.new w3 _ _
  have hT4:=TreeOwn.keeps (KeepsN.of_below hb4) _ _ hT3;have h4:=h3.below hb4;have hR4:=hR3.below hb4 hR3.lt;have P4:=P3.trans (PM.of_below hb4);clear hW4;have HK5:=kH (kids_lit1 hT4 (by have:=hR4.lt;omega))
  generalize hW5:w4.alloc (.cells #[.int .i64 k3,.string t3,.int .i64 a3,.int .i64 z3,.slice A3 n3 c3] 24)=w5 at HK5 ⊢
  have hb5:Below w4.heap.size w4 w5:=by rw[← hW5];exact below_alloc _ _
  have h5:=h4.below hb5;have hR5:=hR4.below hb5 hR4.lt;have P5:=P4.trans (PM.of_below hb5);clear hW5
  obtain⟨v5,hv5⟩:∃ vv,vv=v3:=⟨_,rfl⟩
  rw[← hv5]at h5 P5 HV3;have HV5:=HV3;rw[← hs4];clear hv5 hX4 hs4;refine(nodek_any E hE v5 _ h5 v.st.k 28 [110,111,116] (w.heap.size+1) (some ⟨w4.heap.size,0,none⟩) 1 1 [x3] HK5.out).mono ?_;rintro e w6 ⟨rfl,hb6,hT6⟩;have h6:=h5.below hb6;have hR6:=hR5.below hb6 hR5.lt;obtain⟨⟨r0,r1,r2,r3,r4⟩,g0,g1,g2,g3,g4⟩:=hR6.five
  go_wp2_with fail
  have HEND:=kH (tree_end (v:=v) h6 (P5.trans (PM.of_below hb6)) rfl hR6 hgl hT6);clear hT6;refine bodyPost_ret (v:=.agg #[.int .i64 28,.string (mkS [110,111,116]),.int .i64 (nodeAt E.l v5.st v.st.k [x3]),.int .i64 (v5.st.last:Int),.slice (some ⟨w4.heap.size,0,none⟩) 1 1]) (by simp[results,Tryz.results134,go_sem,r0,r1,r2,r3,r4]) rfl ?_;exact Eq.mp (congrArg (fun r=>TreeRes E w v r _ _) (show (nodeM E.l v5.st v.st.k 28 [110,111,116] [x3],v5.st)=_ by rw[HRES.out,HV5.out])) HEND.out
theorem expr7_any (E:PE) (hE:E.Ok) (f:Nat) (IH:∀ f',f'≤f→AnsW E f') (v:PV) (w:World) (t:Tree) (q:PS) (hpw:PW w E v) (hr:parM E.bs E.l (f+1) (.expr 7) v.st=some ([t],q)):Calls Tryz.prog 134 #[.pointer (some ⟨E.gp,0,none⟩),.int .i64 7] w (TreeRes E w v (t,q)):=by
 rw[parM,if_neg (by decide),if_pos rfl]at hr;have HR:=kH hr;have HIH:=kH IH;clear hr IH;have hgl:=hpw.blk.lt;have hk2:w.cell? ⟨E.gp,2,none⟩=some (.int .i64 (v.st.k:Int)):=hpw.blk.cell 2
 go_enter Tryz.func134,Tryz.ntmps134
 go_wp2_with fail
 generalize hW1:w.alloc (.cells #[.int .i64 0,.string ⟨#[]⟩,.int .i64 0,.int .i64 0,.slice none 0 0] 24)=W1
 have hb1:Below w.heap.size w W1:=by rw[← hW1];exact below_alloc _ _
 have hR1:Blk W1 w.heap.size 24 #[.int .i64 0,.string ⟨#[]⟩,.int .i64 0,.int .i64 0,.slice none 0 0]:=by rw[← hW1];exact Blk.new w _ _
 have hs1:W1.heap.size=w.heap.size+1:=by rw[← hW1];simp
 have hm1:=PM.of_below (E:=E) (v:=v) hb1;have h1:=hpw.below hb1;have P1:=hm1;have HS1:=kH hs1;have HM1:=kH hm1;clear hW1 hs1 hm1 hb1
 obtain⟨b0,hb0⟩:∃ x,isM E.bs E.l v.st [45] = x:=⟨_,rfl⟩
 have HB0:=kH hb0;clear hb0 hk2;refine(accept_any E hE v [45] _ h1).mono ?_;rintro e w2 ⟨rfl,v2,hv2,h2,hm2⟩;rw[HB0.out];have HV2:=kH hv2;have hR2:=hm2.blk h1 hR1;have P2:=P1.trans hm2;clear hv2 hm2
 cases b0
 ·have hst:v2.st=v.st:=by
   rw[HV2.out];unfold acceptM;rw[HB0.out,if_neg (by simp)]
  have hx:parM E.bs E.l f .operand v2.st=some ([t],q):=by
   have:=HR.out;rw[HB0.out,if_neg (by simp)]at this;rw[hst];exact this
  have hcall:=(HIH.out f (Nat.le_refl _)).operand v2 w2 t q h2 hx;have HCALL:=kH hcall;clear hst hx hcall
  go_wp2_with fail
  refine(HCALL.out).mono ?_;rintro e w3 ⟨k3,t3,a3,z3,A3,n3,c3,rfl,hT3,v3,hv3,h3,hm3⟩;have HV3:=kH hv3;have hR3:=hm3.blk h2 hR2;have P3:=P2.trans hm3
  replace hT3:=TreeOwn.weak (Q:=fun g=>w.heap.size+1≤g) (fun g _ hg=>Nat.le_trans hR2.lt hg) _ _ hT3
  clear hv3;have HRES:=trivial;obtain⟨⟨r0,r1,r2,r3,r4⟩,g0,g1,g2,g3,g4⟩:=hR3.five
  go_wp2_with fail
  have HEND:=kH (tree_end (v:=v) h3 P3 rfl hR3 hgl hT3);clear hT3;rw[HV3.out]at HEND;refine bodyPost_ret (v:=.agg #[.int .i64 k3,.string t3,.int .i64 a3,.int .i64 z3,.slice A3 n3 c3]) (by simp[results,Tryz.results134,go_sem,r0,r1,r2,r3,r4]) rfl ?_
  try rw[HRES.out]
  exact HEND.out
 ·have hst:v2.st=readM E.l v.st:=by
   rw[HV2.out];unfold acceptM;rw[HB0.out,if_pos rfl]
  obtain⟨x3,q3,hx,hrq⟩:∃ x3 q3,parM E.bs E.l f (.expr 7) v2.st=some ([x3],q3)∧(t,q)=(nodeM E.l q3 v.st.k 28 [45] [x3],q3):=by
   have:=HR.out;rw[HB0.out,if_pos rfl]at this;obtain⟨x,p,h1,h2⟩:=one_some this;simp at h2;exact⟨x,p,by rw[hst];exact h1,by rw[← h2.1,← h2.2]⟩
  have hcall:=(HIH.out f (Nat.le_refl _)).expr 7 v2 w2 x3 q3 h2 (by omega) (by omega) hx;have HCALL:=kH hcall;have HRES:=kH hrq;clear hst hx hcall hrq
  go_wp2_with fail
  refine(HCALL.out).mono ?_;rintro e w3 ⟨k3,t3,a3,z3,A3,n3,c3,rfl,hT3,v3,hv3,h3,hm3⟩;have HV3:=kH hv3;have hR3:=hm3.blk h2 hR2;have P3:=P2.trans hm3
  replace hT3:=TreeOwn.weak (Q:=fun g=>w.heap.size+1≤g) (fun g _ hg=>Nat.le_trans hR2.lt hg) _ _ hT3
  clear hv3
  go_wp2_with fail
  generalize hW4:w3.alloc (.cells #[.int .i64 k3,.string t3,.int .i64 a3,.int .i64 z3,.slice A3 n3 c3] 24)=w4
  have hb4:Below w3.heap.size w3 w4:=by rw[← hW4];exact below_alloc _ _
  have hs4:w4.heap.size=w3.heap.size+1:=by rw[← hW4];simp
  have hX4:Blk w4 w3.heap.size 24 #[.int .i64 k3,.string t3,.int .i64 a3,.int .i64 z3,.slice A3 n3 c3]:=by rw[← hW4];exact Blk.new w3 _ _
  have hT4:=TreeOwn.keeps (KeepsN.of_below hb4) _ _ hT3;have h4:=h3.below hb4;have hR4:=hR3.below hb4 hR3.lt;have P4:=P3.trans (PM.of_below hb4);clear hW4;have HK5:=kH (kids_lit1 hT4 (by have:=hR4.lt;omega))
  generalize hW5:w4.alloc (.cells #[.int .i64 k3,.string t3,.int .i64 a3,.int .i64 z3,.slice A3 n3 c3] 24)=w5 at HK5 ⊢
  have hb5:Below w4.heap.size w4 w5:=by rw[← hW5];exact below_alloc _ _
  have h5:=h4.below hb5;have hR5:=hR4.below hb5 hR4.lt;have P5:=P4.trans (PM.of_below hb5);clear hW5
  obtain⟨v5,hv5⟩:∃ vv,vv=v3:=⟨_,rfl⟩
  rw[← hv5]at h5 P5 HV3;have HV5:=HV3;rw[← hs4];clear hv5 hX4 hs4;refine(nodek_any E hE v5 _ h5 v.st.k 28 [45] (w.heap.size+1) (some ⟨w4.heap.size,0,none⟩) 1 1 [x3] HK5.out).mono ?_;rintro e w6 ⟨rfl,hb6,hT6⟩;have h6:=h5.below hb6;have hR6:=hR5.below hb6 hR5.lt;obtain⟨⟨r0,r1,r2,r3,r4⟩,g0,g1,g2,g3,g4⟩:=hR6.five
  go_wp2_with fail
  have HEND:=kH (tree_end (v:=v) h6 (P5.trans (PM.of_below hb6)) rfl hR6 hgl hT6);clear hT6;refine bodyPost_ret (v:=.agg #[.int .i64 28,.string (mkS [45]),.int .i64 (nodeAt E.l v5.st v.st.k [x3]),.int .i64 (v5.st.last:Int),.slice (some ⟨w4.heap.size,0,none⟩) 1 1]) (by simp[results,Tryz.results134,go_sem,r0,r1,r2,r3,r4]) rfl ?_;exact Eq.mp (congrArg (fun r=>TreeRes E w v r _ _) (show (nodeM E.l v5.st v.st.k 28 [45] [x3],v5.st)=_ by rw[HRES.out,HV5.out])) HEND.out
end Go.Proofs.YtoepemlnlpamlaaGreat
namespace Go.Proofs.YtoepemlnlpamlaaGreat
set_option maxRecDepth 100000
set_option maxHeartbeats 4000000
open Go.RowKit
theorem kids_lit2 {w:World} {lo:Nat} {t1 t2:Tree} {a b c d e a' b' c' d' e':Value} (h:TreeOwn w (fun g=>lo≤g) t1 [a,b,c,d,e]) (h':TreeOwn w (fun g=>lo≤g) t2 [a',b',c',d',e']) (hlo:lo≤w.heap.size) :
 KidsOwn (w.alloc (.cells #[a,b,c,d,e,a',b',c',d',e'] 24)) lo (.slice (some ⟨w.heap.size,0,none⟩) 2 2) 2 [t1,t2] :=
 kids_lit (ts:=[t1,t2]) (vals:=[[a,b,c,d,e],[a',b',c',d',e']]) ⟨_,_,rfl,h,_,_,rfl,h',rfl⟩ hlo (by simp)
theorem place_any (E:PE) (hE:E.Ok) (f:Nat) (IH:∀ f',f'≤f→AnsW E f') (v:PV) (w:World) (t:Tree) (q:PS) (hpw:PW w E v) (hr:parM E.bs E.l (f+1) .place v.st=some ([t],q)):Calls Tryz.prog 139 #[.pointer (some ⟨E.gp,0,none⟩)] w (TreeRes E w v (t,q)):=by
 rw[parM]at hr;have HR:=kH hr;have HIH:=kH IH;clear hr IH;have hgl:=hpw.blk.lt;have hk2:w.cell? ⟨E.gp,2,none⟩=some (.int .i64 (v.st.k:Int)):=hpw.blk.cell 2
 go_enter Tryz.func139,Tryz.ntmps139
 go_wp2_with fail
 generalize hW1:w.alloc (.cells #[.int .i64 0,.string ⟨#[]⟩,.int .i64 0,.int .i64 0,.slice none 0 0] 24)=W1
 have hb1:Below w.heap.size w W1:=by rw[← hW1];exact below_alloc _ _
 have hR1:Blk W1 w.heap.size 24 #[.int .i64 0,.string ⟨#[]⟩,.int .i64 0,.int .i64 0,.slice none 0 0]:=by rw[← hW1];exact Blk.new w _ _
 have hs1:W1.heap.size=w.heap.size+1:=by rw[← hW1];simp
 have hm1:=PM.of_below (E:=E) (v:=v) hb1;have h1:=hpw.below hb1;have P1:=hm1;have HS1:=kH hs1;have HM1:=kH hm1;clear hW1 hs1 hm1 hb1;clear hk2;refine(variable_any E hE v _ h1).mono ?_;rintro e w2 ⟨k2,t2,a2,z2,A2,n2,c2,rfl,hT2,v2,hv2,h2,hm2⟩;have HV2:=kH hv2;have hR2:=hm2.blk h1 hR1;have P2:=P1.trans hm2
 replace hT2:=TreeOwn.weak (Q:=fun g=>w.heap.size+1≤g) (fun g _ hg=>Nat.le_trans hR1.lt hg) _ _ hT2
 clear hv2
 obtain⟨x2,hx2⟩:∃ x,(varM E.bs E.l v.st).1=x:=⟨_,rfl⟩
 rw[hx2]at hT2;have HX2:=kH hx2;clear hx2
 go_wp2_with fail
 generalize hW3:w2.alloc (.cells #[.int .i64 k2,.string t2,.int .i64 a2,.int .i64 z2,.slice A2 n2 c2] 24)=w3
 have hb3:Below w2.heap.size w2 w3:=by rw[← hW3];exact below_alloc _ _
 have hs3:w3.heap.size=w2.heap.size+1:=by rw[← hW3];simp
 have hX3:Blk w3 w2.heap.size 24 #[.int .i64 k2,.string t2,.int .i64 a2,.int .i64 z2,.slice A2 n2 c2]:=by rw[← hW3];exact Blk.new w2 _ _
 have hT3:=TreeOwn.keeps (KeepsN.of_below hb3) _ _ hT2;have h3:=h2.below hb3;have hR3:=hR2.below hb3 hR2.lt;have P3:=P2.trans (PM.of_below hb3);clear hW3
 obtain⟨v3,hv3⟩:∃ vv,vv=v2:=⟨_,rfl⟩
 rw[← hv3]at h3 P3 HV2;clear hv3
 obtain⟨b0,hb0⟩:∃ x,isM E.bs E.l v3.st [91] = x:=⟨_,rfl⟩
 have HB0:=kH hb0;clear hb0;refine(accept_any E hE v3 [91] _ h3).mono ?_;rintro e w4 ⟨rfl,v4,hv4,h4,hm4⟩;rw[HB0.out];have HV4:=kH hv4;have hR4:=hm4.blk h3 hR3;have P4:=P3.trans hm4;have hX4:=hm4.blk h3 hX3;have hT4:=TreeOwn.keeps (hm4.keepsN h3) _ _ hT3;clear hv4 hm4
 cases b0
 ·have hst:v4.st=v3.st:=by
   rw[HV4.out];unfold acceptM;rw[HB0.out,if_neg (by simp)]
  have HST:=kH hst
  obtain⟨b1,hb1⟩:∃ x,isM E.bs E.l v4.st [46] = x:=⟨_,rfl⟩
  have HB1:=kH hb1;clear hst hb1 hX3 hs3
  go_wp2_with fail
  refine(accept_any E hE v4 [46] _ h4).mono ?_;rintro e w5 ⟨rfl,v5,hv5,h5,hm5⟩;rw[HB1.out];have HV5:=kH hv5;have hR5:=hm5.blk h4 hR4;have P5:=P4.trans hm5;have hX5:=hm5.blk h4 hX4;have hT5:=TreeOwn.keeps (hm5.keepsN h4) _ _ hT4;clear hv5 hm5 hX4
  cases b1
  ·have hst:v5.st=v4.st:=by
    rw[HV5.out];unfold acceptM;rw[HB1.out,if_neg (by simp)]
   have hrq:(t,q)=(x2,v5.st):=by
    have:=HR.out;rw[← HV2.out,HB0.out,if_neg (by simp),← HST.out,HB1.out,if_neg (by simp),HX2.out]at this;simp at this;rw[hst,← this.1,← this.2]
   have HRES:=kH hrq;obtain⟨⟨s0,s1,s2,s3,s4⟩,-⟩:=hX5.five;obtain⟨⟨r0,r1,r2,r3,r4⟩,g0,g1,g2,g3,g4⟩:=hR5.five;clear hst hrq
   go_wp2_with fail
   have HEND:=kH (tree_end (v:=v) h5 P5 rfl hR5 hgl hT5);clear hT5;refine bodyPost_ret (v:=.agg #[.int .i64 k2,.string t2,.int .i64 a2,.int .i64 z2,.slice A2 n2 c2]) (by simp[results,Tryz.results139,go_sem,r0,r1,r2,r3,r4]) rfl ?_;rw[HRES.out];exact HEND.out
  ·have hst:v5.st=readM E.l v4.st:=by
    rw[HV5.out];unfold acceptM;rw[HB1.out,if_pos rfl]
   have hrq:(t,q)=(nodeM E.l (nameP E.l v5.st) v.st.k 22 (nameT E.bs E.l v5.st) [x2],nameP E.l v5.st):=by
    have:=HR.out;rw[← HV2.out,HB0.out,if_neg (by simp),← HST.out,HB1.out,if_pos rfl,HX2.out]at this;simp at this;rw[hst,← this.1,← this.2]
   have HRES:=kH hrq;clear hst hrq
   go_wp2_with fail
   refine(name_any E hE v5 _ h5).mono ?_;rintro e w7 ⟨rfl,v7,hv7,h7,hm7⟩;have HV7:=kH hv7;have hR7:=hm7.blk h5 hR5;have P7:=P5.trans hm7;have hX7:=hm7.blk h5 hX5;have hT7:=TreeOwn.keeps (hm7.keepsN h5) _ _ hT5;obtain⟨⟨s0,s1,s2,s3,s4⟩,-⟩:=hX7.five;clear hv7 hm7 hX7 hX5
   go_wp2_with fail
   have HK8:=kH (kids_lit1 hT7 (by have:=hR7.lt;omega))
   generalize hW8:w7.alloc (.cells #[.int .i64 k2,.string t2,.int .i64 a2,.int .i64 z2,.slice A2 n2 c2] 24)=w8 at HK8 ⊢
   have hb8:Below w7.heap.size w7 w8:=by rw[← hW8];exact below_alloc _ _
   have h8:=h7.below hb8;have hR8:=hR7.below hb8 hR7.lt;have P8:=P7.trans (PM.of_below hb8);clear hW8
   obtain⟨v8,hv8⟩:∃ vv,vv=v7:=⟨_,rfl⟩
   rw[← hv8]at h8 P8 HV7;have HV8:=HV7;clear hv8 s0 s1 s2 s3 s4;refine(nodek_any E hE v8 _ h8 v.st.k 22 (nameT E.bs E.l v5.st) (w.heap.size+1) (some ⟨w7.heap.size,0,none⟩) 1 1 [x2] HK8.out).mono ?_;rintro e w9 ⟨rfl,hb9,hT9⟩;have h9:=h8.below hb9;have hR9:=hR8.below hb9 hR8.lt;obtain⟨⟨r0,r1,r2,r3,r4⟩,g0,g1,g2,g3,g4⟩:=hR9.five
   go_wp2_with fail
   have HEND:=kH (tree_end (v:=v) h9 (P8.trans (PM.of_below hb9)) rfl hR9 hgl hT9);clear hT9;refine bodyPost_ret (v:=.agg #[.int .i64 22,.string (mkS (nameT E.bs E.l v5.st)),.int .i64 (nodeAt E.l v8.st v.st.k [x2]),.int .i64 (v8.st.last:Int),.slice (some ⟨w7.heap.size,0,none⟩) 1 1]) (by simp[results,Tryz.results139,go_sem,r0,r1,r2,r3,r4]) rfl ?_;exact Eq.mp (congrArg (fun r=>TreeRes E w v r _ _) (show (nodeM E.l v8.st v.st.k 22 (nameT E.bs E.l v5.st) [x2],v8.st)=_ by rw[HRES.out,HV8.out])) HEND.out
 ·have hst:v4.st=readM E.l v3.st:=by
   rw[HV4.out];unfold acceptM;rw[HB0.out,if_pos rfl]
  obtain⟨x5,q5,hx,hrq⟩:∃ x5 q5,parM E.bs E.l f (.expr 1) v4.st=some ([x5],q5)∧(t,q)=(nodeM E.l (expectM E.bs E.l q5 [93]) v.st.k 21 [] [x2,x5],expectM E.bs E.l q5 [93]):=by
   have:=HR.out;rw[← HV2.out,HB0.out,if_pos rfl,HX2.out]at this;obtain⟨x,p,h1,h2⟩:=one_some this;simp at h2;exact⟨x,p,by rw[hst];exact h1,by rw[← h2.1,← h2.2]⟩
  have hcall:=(HIH.out f (Nat.le_refl _)).expr 1 v4 w4 x5 q5 h4 (by omega) (by omega) hx;have HCALL:=kH hcall;have HRES:=kH hrq;clear hst hx hcall hrq hX3 hs3
  go_wp2_with fail
  refine(HCALL.out).mono ?_;rintro e w5 ⟨k5,t5,a5,z5,A5,n5,c5,rfl,hT5,v5,hv5,h5,hm5⟩;have HV5:=kH hv5;have hR5:=hm5.blk h4 hR4;have P5:=P4.trans hm5
  replace hT5:=TreeOwn.weak (Q:=fun g=>w.heap.size+1≤g) (fun g _ hg=>Nat.le_trans hR4.lt hg) _ _ hT5
  clear hv5;have hX5:=hm5.blk h4 hX4;have hU5:=TreeOwn.keeps (hm5.keepsN h4) _ _ hT4
  go_wp2_with fail
  have hX5l:=hX5.lt
  generalize hW6:w5.alloc (.cells #[.int .i64 k5,.string t5,.int .i64 a5,.int .i64 z5,.slice A5 n5 c5] 24)=w6
  have hb6:Below w5.heap.size w5 w6:=by rw[← hW6];exact below_alloc _ _
  have hs6:w6.heap.size=w5.heap.size+1:=by rw[← hW6];simp
  have hX6:Blk w6 w5.heap.size 24 #[.int .i64 k5,.string t5,.int .i64 a5,.int .i64 z5,.slice A5 n5 c5]:=by rw[← hW6];exact Blk.new w5 _ _
  have hT6:=TreeOwn.keeps (KeepsN.of_below hb6) _ _ hT5;have h6:=h5.below hb6;have hR6:=hR5.below hb6 hR5.lt;have P6:=P5.trans (PM.of_below hb6);clear hW6;have hY6:=hX5.below hb6 hX5.lt;have hU6:=TreeOwn.keeps (KeepsN.of_below hb6) _ _ hU5;refine(expect_any E hE v5 [93] _ h6).mono ?_;rintro e w7 ⟨rfl,v7,hv7,h7,hm7⟩;have HV7:=kH hv7;rw[HV5.out]at HV7;have hR7:=hm7.blk h6 hR6;have P7:=P6.trans hm7;have hX7:=hm7.blk h6 hX6;have hY7:=hm7.blk h6 hY6;have hT7:=TreeOwn.keeps (hm7.keepsN h6) _ _ hT6;have hU7:=TreeOwn.keeps (hm7.keepsN h6) _ _ hU6;obtain⟨⟨r0,r1,r2,r3,r4⟩,-⟩:=hX7.five;obtain⟨⟨s0,s1,s2,s3,s4⟩,-⟩:=hY7.five;have HR7:=kH hR7;clear hv7 hm7 hX7 hY7 hX4 hX5 hX6 hY6 hs6
  go_wp2_with fail
  have HK8:=kH (kids_lit2 hU7 hT7 (by have:=HR7.out.lt;omega))
  generalize hW8:w7.alloc (.cells #[.int .i64 k2,.string t2,.int .i64 a2,.int .i64 z2,.slice A2 n2 c2,.int .i64 k5,.string t5,.int .i64 a5,.int .i64 z5,.slice A5 n5 c5] 24)=w8 at HK8 ⊢
  have hb8:Below w7.heap.size w7 w8:=by rw[← hW8];exact below_alloc _ _
  have h8:=h7.below hb8;have hR8:=HR7.out.below hb8 HR7.out.lt;have P8:=P7.trans (PM.of_below hb8)
  obtain⟨v8,hv8⟩:∃ vv,vv=v7:=⟨_,rfl⟩
  rw[← hv8]at h8 P8 HV7;have HV8:=HV7;clear hv8 hW8 r0 r1 r2 r3 r4 s0 s1 s2 s3 s4;refine(nodek_any E hE v8 _ h8 v.st.k 21 [] (w.heap.size+1) (some ⟨w7.heap.size,0,none⟩) 2 2 [x2,x5] HK8.out).mono ?_;rintro e w9 ⟨rfl,hb9,hT9⟩;have h9:=h8.below hb9;have hR9:=hR8.below hb9 hR8.lt;obtain⟨⟨r0,r1,r2,r3,r4⟩,g0,g1,g2,g3,g4⟩:=hR9.five
  go_wp2_with fail
  have HEND:=kH (tree_end (v:=v) h9 (P8.trans (PM.of_below hb9)) rfl hR9 hgl hT9);clear hT9;refine bodyPost_ret (v:=.agg #[.int .i64 21,.string (mkS []),.int .i64 (nodeAt E.l v8.st v.st.k [x2,x5]),.int .i64 (v8.st.last:Int),.slice (some ⟨w7.heap.size,0,none⟩) 2 2]) (by simp[results,Tryz.results139,go_sem,r0,r1,r2,r3,r4]) rfl ?_;exact Eq.mp (congrArg (fun r=>TreeRes E w v r _ _) (show (nodeM E.l v8.st v.st.k 21 [] [x2,x5],v8.st)=_ by rw[HRES.out,HV8.out])) HEND.out
end Go.Proofs.YtoepemlnlpamlaaGreat
namespace Go.Proofs.YtoepemlnlpamlaaGreat
set_option maxRecDepth 100000
set_option maxHeartbeats 4000000
open Go.RowKit
theorem kids_lit3 {w:World} {lo:Nat} {t1 t2 t3:Tree} {a b c d e a' b' c' d' e' x y z u o:Value} (h:TreeOwn w (fun g=>lo≤g) t1 [a,b,c,d,e]) (h':TreeOwn w (fun g=>lo≤g) t2 [a',b',c',d',e']) (h'':TreeOwn w (fun g=>lo≤g) t3 [x,y,z,u,o]) (hlo:lo≤w.heap.size) :
 KidsOwn (w.alloc (.cells #[a,b,c,d,e,a',b',c',d',e',x,y,z,u,o] 24)) lo (.slice (some ⟨w.heap.size,0,none⟩) 3 3) 3 [t1,t2,t3] :=
 kids_lit (ts:=[t1,t2,t3]) (vals:=[[a,b,c,d,e],[a',b',c',d',e'],[x,y,z,u,o]]) ⟨_,_,rfl,h,_,_,rfl,h',_,_,rfl,h'',rfl⟩ hlo (by simp)
theorem procedure_any (E:PE) (hE:E.Ok) (f:Nat) (IH:AnsW E f) (v:PV) (w:World) (r:Tree × PS) (hpw:PW w E v) (h5:kindM E.l v.st≠5) (hr:procM E.bs E.l f v.st=some r):Calls Tryz.prog 68 #[.pointer (some ⟨E.gp,0,none⟩)] w (TreeRes E w v r):=by
 obtain⟨x4,q4,x8,q8,hx,hb,hrq⟩:∃ x4 q4 x8 q8,paramsM E.bs E.l f (nameP E.l (readM E.l v.st))=some (x4,q4)∧parM E.bs E.l f .block (optM E.bs E.l q4).2=some ([x8],q8)∧r=(nodeM E.l q8 v.st.k 5 (nameT E.bs E.l (readM E.l v.st)) [x4,(optM E.bs E.l q4).1,x8],q8):=by
  unfold procM at hr;simp only at hr;split at hr
  ·cases hr
  ·rename_i x p h
   split at hr
   ·rename_i b p3 h2
    cases hr
    exact⟨x,p,b,p3,h,h2,rfl⟩
   ·cases hr
 have HX:=kH hx;have HB:=kH hb;have HRES:=kH hrq;have HIH:=kH IH;have HH5:=kH h5;clear hr hx hb hrq IH h5;have hgl:=hpw.blk.lt;have hk2:w.cell? ⟨E.gp,2,none⟩=some (.int .i64 (v.st.k:Int)):=hpw.blk.cell 2
 go_enter Tryz.func68,Tryz.ntmps68
 go_wp2_with fail
 generalize hW1:w.alloc (.cells #[.int .i64 0,.string ⟨#[]⟩,.int .i64 0,.int .i64 0,.slice none 0 0] 24)=W1
 have hb1:Below w.heap.size w W1:=by rw[← hW1];exact below_alloc _ _
 have hR1:Blk W1 w.heap.size 24 #[.int .i64 0,.string ⟨#[]⟩,.int .i64 0,.int .i64 0,.slice none 0 0]:=by rw[← hW1];exact Blk.new w _ _
 have hs1:W1.heap.size=w.heap.size+1:=by rw[← hW1];simp
 have hm1:=PM.of_below (E:=E) (v:=v) hb1;have h1:=hpw.below hb1;have P1:=hm1;have HS1:=kH hs1;have HM1:=kH hm1;clear hW1 hs1 hm1 hb1;clear hk2;refine(read_any E hE v _ h1 HH5.out).mono ?_;rintro e w2 ⟨rfl,h2,hm2⟩;have hR2:=hm2.blk h1 hR1;have P2:=P1.trans hm2
 obtain⟨v2,hv2⟩:∃ vv:PV,(⟨readM E.l v.st,v.lv⟩:PV)=vv:=⟨_,rfl⟩
 rw[hv2]at h2 P2;have HV2:Hid (v2.st=readM E.l v.st):=kH (by rw[← hv2]);clear hv2 hm2
 go_wp2_with fail
 refine(name_any E hE v2 _ h2).mono ?_;rintro e w3 ⟨rfl,v3,hv3,h3,hm3⟩;have HV3:=kH hv3;have hR3:=hm3.blk h2 hR2;have P3:=P2.trans hm3;clear hv3 hm3
 have hnt:nameT E.bs E.l v2.st=nameT E.bs E.l (readM E.l v.st):=by rw[HV2.out]
 rw[hnt];rw[HV2.out]at HV3;clear hnt;have hcall:=parameters_any E hE v3 w3 h3 f (x4,q4) (by rw[HV3.out];exact HX.out);have HC4:=kH hcall;clear hcall
 go_wp2_with fail
 refine(HC4.out).mono ?_;rintro e w4 ⟨k4,t4,a4,z4,A4,n4,c4,rfl,hT4,v4,hv4,h4,hm4⟩;have HV4:=kH hv4;have hR4:=hm4.blk h3 hR3;have P4:=P3.trans hm4
 replace hT4:=TreeOwn.weak (Q:=fun g=>w.heap.size+1≤g) (fun g _ hg=>Nat.le_trans hR3.lt hg) _ _ hT4
 clear hv4
 go_wp2_with fail
 generalize hW5:w4.alloc (.cells #[.int .i64 k4,.string t4,.int .i64 a4,.int .i64 z4,.slice A4 n4 c4] 24)=w5
 have hb5:Below w4.heap.size w4 w5:=by rw[← hW5];exact below_alloc _ _
 have hs5:w5.heap.size=w4.heap.size+1:=by rw[← hW5];simp
 have hX5:Blk w5 w4.heap.size 24 #[.int .i64 k4,.string t4,.int .i64 a4,.int .i64 z4,.slice A4 n4 c4]:=by rw[← hW5];exact Blk.new w4 _ _
 have hT5:=TreeOwn.keeps (KeepsN.of_below hb5) _ _ hT4;have h5:=h4.below hb5;have hR5:=hR4.below hb5 hR4.lt;have P5:=P4.trans (PM.of_below hb5);clear hW5
 obtain⟨v5,hv5⟩:∃ vv,vv=v4:=⟨_,rfl⟩
 rw[← hv5]at h5 P5 HV4;clear hv5 hs5;refine(optional_any E hE v5 _ h5).mono ?_;rintro e w6 ⟨k6,t6,a6,z6,A6,n6,c6,rfl,hT6,v6,hv6,h6,hm6⟩;have HV6:=kH hv6;have hR6:=hm6.blk h5 hR5;have P6:=P5.trans hm6
 replace hT6:=TreeOwn.weak (Q:=fun g=>w.heap.size+1≤g) (fun g _ hg=>Nat.le_trans hR5.lt hg) _ _ hT6
 clear hv6;have hX6:=hm6.blk h5 hX5;have hU6:=TreeOwn.keeps (hm6.keepsN h5) _ _ hT5;have hq4:v5.st=q4:=HV4.out;rw[hq4]at HV6 hT6
 obtain⟨o6,ho6⟩:∃ x,(optM E.bs E.l q4).1=x:=⟨_,rfl⟩
 rw[ho6]at hT6 HRES;clear ho6 hq4
 go_wp2_with fail
 generalize hW7:w6.alloc (.cells #[.int .i64 k6,.string t6,.int .i64 a6,.int .i64 z6,.slice A6 n6 c6] 24)=w7
 have hb7:Below w6.heap.size w6 w7:=by rw[← hW7];exact below_alloc _ _
 have hs7:w7.heap.size=w6.heap.size+1:=by rw[← hW7];simp
 have hX7:Blk w7 w6.heap.size 24 #[.int .i64 k6,.string t6,.int .i64 a6,.int .i64 z6,.slice A6 n6 c6]:=by rw[← hW7];exact Blk.new w6 _ _
 have hT7:=TreeOwn.keeps (KeepsN.of_below hb7) _ _ hT6;have h7:=h6.below hb7;have hR7:=hR6.below hb7 hR6.lt;have P7:=P6.trans (PM.of_below hb7);clear hW7;have hY7:=hX6.below hb7 hX6.lt;have hU7:=TreeOwn.keeps (KeepsN.of_below hb7) _ _ hU6
 obtain⟨v7,hv7⟩:∃ vv,vv=v6:=⟨_,rfl⟩
 rw[← hv7]at h7 P7 HV6;clear hv7 hs7;have hcall:=HIH.out.block v7 w7 x8 q8 h7 (by rw[HV6.out];exact HB.out);have HC8:=kH hcall;clear hcall;refine(HC8.out).mono ?_;rintro e w8 ⟨k8,t8,a8,z8,A8,n8,c8,rfl,hT8,v8,hv8,h8,hm8⟩;have HV8:=kH hv8;have hR8:=hm8.blk h7 hR7;have P8:=P7.trans hm8
 replace hT8:=TreeOwn.weak (Q:=fun g=>w.heap.size+1≤g) (fun g _ hg=>Nat.le_trans hR7.lt hg) _ _ hT8
 clear hv8;have hX8:=hm8.blk h7 hY7;have hY8:=hm8.blk h7 hX7;have hU8:=TreeOwn.keeps (hm8.keepsN h7) _ _ hU7;have hW8:=TreeOwn.keeps (hm8.keepsN h7) _ _ hT7;obtain⟨⟨r0,r1,r2,r3,r4⟩,-⟩:=hX8.five;obtain⟨⟨s0,s1,s2,s3,s4⟩,-⟩:=hY8.five;have HR8:=kH hR8;have hl4:=hX8.lt;have hl6:=hY8.lt;clear hX8 hY8 hX7 hY7 hX6 hX5
 go_wp2_with fail
 generalize hW9:w8.alloc (.cells #[.int .i64 k8,.string t8,.int .i64 a8,.int .i64 z8,.slice A8 n8 c8] 24)=w9
 have hb9:Below w8.heap.size w8 w9:=by rw[← hW9];exact below_alloc _ _
 have hs9:w9.heap.size=w8.heap.size+1:=by rw[← hW9];simp
 have hX9:Blk w9 w8.heap.size 24 #[.int .i64 k8,.string t8,.int .i64 a8,.int .i64 z8,.slice A8 n8 c8]:=by rw[← hW9];exact Blk.new w8 _ _
 have hT9:=TreeOwn.keeps (KeepsN.of_below hb9) _ _ hT8;have h9:=h8.below hb9;have hR9:=hR8.below hb9 hR8.lt;have P9:=P8.trans (PM.of_below hb9);clear hW9;have hU9:=TreeOwn.keeps (KeepsN.of_below hb9) _ _ hU8;have hW9:=TreeOwn.keeps (KeepsN.of_below hb9) _ _ hW8;have HK10:=kH (kids_lit3 hU9 hW9 hT9 (by have:=hR9.lt;omega))
 generalize hW10:w9.alloc (.cells #[.int .i64 k4,.string t4,.int .i64 a4,.int .i64 z4,.slice A4 n4 c4,.int .i64 k6,.string t6,.int .i64 a6,.int .i64 z6,.slice A6 n6 c6,.int .i64 k8,.string t8,.int .i64 a8,.int .i64 z8,.slice A8 n8 c8] 24)=w10 at HK10 ⊢
 have hb10:Below w9.heap.size w9 w10:=by rw[← hW10];exact below_alloc _ _
 have h10:=h9.below hb10;have hR10:=hR9.below hb10 hR9.lt;have P10:=P9.trans (PM.of_below hb10)
 obtain⟨v10,hv10⟩:∃ vv,vv=v8:=⟨_,rfl⟩
 rw[← hv10]at h10 P10 HV8;have HV10:=HV8;rw[← hs9];clear hv10 hW10 hs9 r0 r1 r2 r3 r4 s0 s1 s2 s3 s4 hX9;refine(nodek_any E hE v10 _ h10 v.st.k 5 (nameT E.bs E.l (readM E.l v.st)) (w.heap.size+1) (some ⟨w9.heap.size,0,none⟩) 3 3 [x4,o6,x8] HK10.out).mono ?_;rintro e w11 ⟨rfl,hb11,hT11⟩;have h11:=h10.below hb11;have hR11:=hR10.below hb11 hR10.lt;obtain⟨⟨r0,r1,r2,r3,r4⟩,g0,g1,g2,g3,g4⟩:=hR11.five
 go_wp2_with fail
 have HEND:=kH (tree_end (v:=v) h11 (P10.trans (PM.of_below hb11)) rfl hR11 hgl hT11);clear hT11;refine bodyPost_ret (v:=.agg #[.int .i64 5,.string (mkS (nameT E.bs E.l (readM E.l v.st))),.int .i64 (nodeAt E.l v10.st v.st.k [x4,o6,x8]),.int .i64 (v10.st.last:Int),.slice (some ⟨w9.heap.size,0,none⟩) 3 3]) (by simp[results,Tryz.results68,go_sem,r0,r1,r2,r3,r4]) rfl ?_;exact Eq.mp (congrArg (fun r=>TreeRes E w v r _ _) (show (nodeM E.l v10.st v.st.k 5 (nameT E.bs E.l (readM E.l v.st)) [x4,o6,x8],v10.st)=_ by rw[HRES.out,HV10.out])) HEND.out
end Go.Proofs.YtoepemlnlpamlaaGreat
namespace Go.Proofs.YtoepemlnlpamlaaGreat
set_option maxRecDepth 100000
set_option maxHeartbeats 4000000
open Go.RowKit
theorem store_box {E:PE} {w wz:World} {v vz:PV} {g:Nat} {a0 b0 c0 d0 e0:Value} (hz:PW wz E vz) (hm:PM E w v wz vz) (hb:Blk wz g 24 #[a0,b0,c0,d0,e0]) (hg:w.heap.size≤g) (a b c d e:Value) :
 PW (set5 wz g a b c d e) E vz∧PM E w v (set5 wz g a b c d e) vz∧Blk (set5 wz g a b c d e) g 24 #[a,b,c,d,e]∧KeepsN (fun x=>x≠g) wz (set5 wz g a b c d e):=by
 have hs:Since (fun x=>x=g) wz (set5 wz g a b c d e):=by
  unfold set5;exact(((((Since.refl (fun x=>x=g) wz).setCell (.inl rfl) _).setCell (.inl rfl) _).setCell (.inl rfl) _).setCell (.inl rfl) _).setCell (.inl rfl) _
 have hne:E.gp≠g:=by
  rintro rfl;have h1:=hz.blk;unfold Blk at h1 hb;rw[h1]at hb;simp at hb
 refine⟨⟨hz.blk.since hs hne,hz.own.since hs (fun x hx e1=>hz.own.ne_blk hb (by decide) (by rw[hx,e1])),hz.toks.since hs (fun x hx e1=>hz.toks.ne_blk hb (by decide) (by rw[hx,e1])),hz.at_,hz.good,hz.last⟩,⟨hm.since.step hs (fun x hx=>.inr (by omega)),hm.fresh⟩,?_,fun x _ hx hc=>hs.block x (Array.getElem?_eq_some_iff.1 hc).1 hx⟩;have:=((((hb.set_ 0 a).set_ 1 b).set_ 2 c).set_ 3 d).set_ 4 e;unfold set5
 simpa using this
end Go.Proofs.YtoepemlnlpamlaaGreat
namespace Go.Proofs.YtoepemlnlpamlaaGreat
set_option maxRecDepth 100000
set_option maxHeartbeats 4000000
open Go.RowKit
def Boxed (w:World) (P:Nat→Prop) (g:Nat) (t:Tree) (a b c d e:Value):Prop :=
 Blk w g 24 #[a,b,c,d,e]∧TreeOwn w P t [a,b,c,d,e]
theorem Boxed.pm {w w':World} {P:Nat→Prop} {g:Nat} {t:Tree} {a b c d e:Value} {E:PE} {v v':PV} (h:Boxed w P g t a b c d e) (hm:PM E w v w' v') (hw:PW w E v):Boxed w' P g t a b c d e :=
 ⟨hm.blk hw h.1,TreeOwn.keeps (hm.keepsN hw) _ _ h.2⟩
theorem Boxed.below {w w':World} {P:Nat→Prop} {g:Nat} {t:Tree} {a b c d e:Value} (h:Boxed w P g t a b c d e) (hb:Below w.heap.size w w'):Boxed w' P g t a b c d e :=
 ⟨Blk.below h.1 hb (Blk.lt h.1),TreeOwn.keeps (KeepsN.of_below hb) _ _ h.2⟩
theorem Boxed.weak {w:World} {P Q:Nat→Prop} {g:Nat} {t:Tree} {a b c d e:Value} (h:Boxed w P g t a b c d e) (hPQ:∀ g,g < w.heap.size→P g→Q g):Boxed w Q g t a b c d e :=
 ⟨h.1,TreeOwn.weak hPQ _ _ h.2⟩
section
variable (E:PE) (hE:E.Ok) (v:PV) (w:World) (hpw:PW w E v) {p:PS} (hst:v.st=p)
include hE hpw hst
theorem accept_no (x:Bytes) (hb:isM E.bs E.l p x=false):Calls Tryz.prog 128 #[.pointer (some ⟨E.gp,0,none⟩),.string (mkS x)] w fun e w'=>e = .returned (.bool false)∧PTo E w v p w':=by
 subst hst;have:=accept_any E hE v x w hpw;rw[hb]at this;unfold acceptM at this;rw[hb]at this;exact this
theorem accept_yes (x:Bytes) (hb:isM E.bs E.l p x=true):Calls Tryz.prog 128 #[.pointer (some ⟨E.gp,0,none⟩),.string (mkS x)] w fun e w'=>e = .returned (.bool true)∧PTo E w v (readM E.l p) w':=by
 subst hst;have:=accept_any E hE v x w hpw;rw[hb]at this;unfold acceptM at this;rw[hb]at this;exact this
theorem expect_to (x:Bytes):Calls Tryz.prog 126 #[.pointer (some ⟨E.gp,0,none⟩),.string (mkS x)] w fun e w'=>e = .returned (.bool (isM E.bs E.l p x))∧PTo E w v (expectM E.bs E.l p x) w':=by
 subst hst;exact expect_any E hE v x w hpw
theorem name_to:Calls Tryz.prog 125 #[.pointer (some ⟨E.gp,0,none⟩)] w fun e w'=>e = .returned (.string (mkS (nameT E.bs E.l p)))∧PTo E w v (nameP E.l p) w':=by
 subst hst;exact name_any E hE v w hpw
theorem is_to (x:Bytes) {b:Bool} (hb:isM E.bs E.l p x=b):Calls Tryz.prog 66 #[.pointer (some ⟨E.gp,0,none⟩),.string (mkS x)] w fun e w'=>e = .returned (.bool b)∧PTo E w v p w':=by
 subst hst;refine(is_any E hE v x w hpw).mono ?_;rintro e w' ⟨rfl,hb'⟩;exact⟨by rw[hb],v,rfl,hpw.below hb',PM.of_below hb'⟩
theorem kind_to {k:Nat} (hk:kindM E.l p=k):Calls Tryz.prog 65 #[.pointer (some ⟨E.gp,0,none⟩)] w fun e w'=>e = .returned (.int .i64 (k:Int))∧PTo E w v p w':=by
 subst hst;refine(kind_any E hE v w hpw).mono ?_;rintro e w' ⟨rfl,hb'⟩;exact⟨by rw[hk],v,rfl,hpw.below hb',PM.of_below hb'⟩
theorem behind_to {x:Bytes} (hx:behindM E.bs E.l p=x):Calls Tryz.prog 137 #[.pointer (some ⟨E.gp,0,none⟩)] w fun e w'=>e = .returned (.string (mkS x))∧PTo E w v p w':=by
 subst hst;refine(behind_any E hE v w hpw).mono ?_;rintro e w' ⟨rfl,hb'⟩;exact⟨by rw[hx],v,rfl,hpw.below hb',PM.of_below hb'⟩
theorem primary_to {b:Bool} (hb:primM E.bs E.l p=b):Calls Tryz.prog 136 #[.pointer (some ⟨E.gp,0,none⟩)] w fun e w'=>e = .returned (.bool b)∧PTo E w v p w':=by
 subst hst;refine(primary_any E hE v w hpw).mono ?_;rintro e w' ⟨rfl,hb'⟩;exact⟨by rw[hb],v,rfl,hpw.below hb',PM.of_below hb'⟩
theorem operator_to (lv:Nat) (hlv:lv≤7) {b:Bool} (hb:operM E.bs E.l p lv=b):Calls Tryz.prog 186 #[.pointer (some ⟨E.gp,0,none⟩),.int .i64 (lv:Int)] w fun e w'=>e = .returned (.bool b)∧PTo E w v p w':=by
 subst hst;refine(operator_any E hE v lv w hpw hlv).mono ?_;rintro e w' ⟨rfl,hb'⟩;exact⟨by rw[hb],v,rfl,hpw.below hb',PM.of_below hb'⟩
theorem read_to (h5:kindM E.l p≠5):Calls Tryz.prog 70 #[.pointer (some ⟨E.gp,0,none⟩)] w fun e w'=>e = .returned (.string (mkS (wordM E.bs E.l p.k)))∧PTo E w v (readM E.l p) w':=by
 subst hst;refine(read_any E hE v w hpw h5).mono ?_;rintro e w' ⟨rfl,h1,h2⟩;exact⟨rfl,_,rfl,h1,h2⟩
theorem report_to (c:Int) (x:Bytes):Calls Tryz.prog 69 #[.pointer (some ⟨E.gp,0,none⟩),.int .i64 c,.string (mkS x)] w fun e w'=>(∃ u,e = .returned u)∧PTo E w v (repM E.l p c x) w':=by
 subst hst;exact report_any E hE v c x w hpw
end
theorem is_not5 {s:Bytes} {l:List Tok} {p:PS} {x:Bytes} (h:isM s l p x=true):kindM l p≠5:=by
 unfold isM at h;simp at h;exact h.1
theorem lit2P {w:World} {P:Nat→Prop} {t1 t2:Tree} {a b c d e a' b' c' d' e':Value} (h:TreeOwn w P t1 [a,b,c,d,e]) (h':TreeOwn w P t2 [a',b',c',d',e']) (hP:P w.heap.size) (k:Int) (x:ByteArray) (at_ end_:Int) :
 TreeOwn (w.alloc (.cells #[a,b,c,d,e,a',b',c',d',e'] 24)) P (.node k x at_ end_ [t1,t2]) [.int .i64 k,.string x,.int .i64 at_,.int .i64 end_,.slice (some ⟨w.heap.size,0,none⟩) 2 2]:=by
 have hk:KeepsN P w (w.alloc (.cells #[a,b,c,d,e,a',b',c',d',e'] 24)):=KeepsN.of_below (below_alloc _ _);refine⟨some ⟨w.heap.size,0,none⟩,2,[[a,b,c,d,e],[a',b',c',d',e']],rfl,?_,fun g hg=>?_,_,_,rfl,TreeOwn.keeps hk _ _ h,_,_,rfl,TreeOwn.keeps hk _ _ h',rfl⟩
 ·exact OwnS.block (base:=0) (e:=24) (size:=5) (n:=2) (Nat.zero_le _) (Blk.new w 24 _) (by simp only[maxLen];omega) (by simp)
 ·have:g=w.heap.size:=by simpa [Value.ownBlock] using hg.symm
  rw[this];exact hP
end Go.Proofs.YtoepemlnlpamlaaGreat
