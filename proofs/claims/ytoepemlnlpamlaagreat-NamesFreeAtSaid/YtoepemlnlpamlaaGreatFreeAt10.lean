/- The law NamesFreeAt holds: for every text and every number the law returns true, and its arguments read as before. No condition. Part 10: Expr Operand. -/
import Derived.Test.YtoepemlnlpamlaaGreatFreeAt09
namespace Go.Proofs.YtoepemlnlpamlaaGreat
set_option maxRecDepth 100000
set_option maxHeartbeats 4000000
open Go.RowKit
theorem oper_not5 {s:Bytes} {l:List Tok} {p:PS} {lv:Nat} (h:operM s l p lv=true):kindM l p≠5:=by
 unfold operM at h;simp at h;exact h.1
theorem exprs_any (E:PE) (hE:E.Ok) (f:Nat) (IH:∀ f',f'≤f→AnsW E f') (lv:Nat) (hl3:lv≠3) (hl7:lv≠7) (hl1:1≤lv) (hlm:lv≤7) (v:PV) (w:World) (t:Tree) (q:PS) (hpw:PW w E v) (hr:parM E.bs E.l (f+1) (.expr lv) v.st=some ([t],q)):Calls Tryz.prog 134 #[.pointer (some ⟨E.gp,0,none⟩),.int .i64 (lv:Int)] w (TreeRes E w v (t,q)):=by
 rw[parM,if_neg hl3,if_neg hl7]at hr;obtain⟨x0,q0,hx0,hxl⟩:=one_some hr;have HX0:=kH hx0;have HXL:=kH hxl;have HIH:=kH IH;have HL:Hid (lv+1≤7∧1≤lv):=kH ⟨by omega,hl1⟩
 have e3:((lv:Int) == 3)=false:=by simp;omega
 have e7:((lv:Int) == 7)=false:=by simp;omega
 have hwr:IntKind.i64.wrap ((lv:Int)+1)=((lv+1:Nat):Int):=by rw[IntWalk.i64_in _ (by omega)];omega
 obtain⟨b4,hb4⟩:∃ b,decide (lv=4)=b:=⟨_,rfl⟩
 have e4:((lv:Int) == 4)=b4:=by rw[← hb4,Bool.eq_iff_iff];simp;omega
 have HB4:=kH hb4;clear hr hx0 hxl IH hl3 hl7 hl1 hlm hb4;have hgl:=hpw.blk.lt;have hk2:w.cell? ⟨E.gp,2,none⟩=some (.int .i64 (v.st.k:Int)):=hpw.blk.cell 2
 go_enter Tryz.func134,Tryz.ntmps134
 go_wp2_with fail
 generalize hW1:w.alloc (.cells #[.int .i64 0,.string ⟨#[]⟩,.int .i64 0,.int .i64 0,.slice none 0 0] 24)=W1
 have hb1:Below w.heap.size w W1:=by rw[← hW1];exact below_alloc _ _
 have hR1:Blk W1 w.heap.size 24 #[.int .i64 0,.string ⟨#[]⟩,.int .i64 0,.int .i64 0,.slice none 0 0]:=by rw[← hW1];exact Blk.new w _ _
 have hs1:W1.heap.size=w.heap.size+1:=by rw[← hW1];simp
 have hm1:=PM.of_below (E:=E) (v:=v) hb1;have h1:=hpw.below hb1;have P1:=hm1;have HS1:=kH hs1;have HM1:=kH hm1;clear hW1 hs1 hm1 hb1;clear hk2;have HV1:Hid (v.st=v.st):=kH rfl;have hcall:=(HIH.out f (Nat.le_refl _)).expr (lv+1) v W1 x0 q0 h1 (by omega) HL.out.1 HX0.out;have HC:=kH hcall;clear hcall
 go_wp2_with fail
 refine(HC.out).mono ?_;rintro e w2 ⟨k2,t2,a2,z2,A2,n2,c2,rfl,hT2,v2,hv2,h2,hm2⟩
 try dsimp only at hv2 hT2
 have HV2:=kH hv2;have hR2:=hm2.blk h1 hR1;have P2:=P1.trans hm2
 replace hT2:=TreeOwn.weak (Q:=fun g=>w.heap.size+1≤g) (fun g _ hg=>Nat.le_trans hR1.lt hg) _ _ hT2
 clear hv2 hm2
 go_wp2_with fail
 replace hT2:=TreeOwn.weak (Q:=fun g=>w.heap.size+1≤g∧g≠w2.heap.size) (fun g hg hp=>⟨hp,by omega⟩) _ _ hT2
 generalize hW3:w2.alloc (.cells #[.int .i64 k2,.string t2,.int .i64 a2,.int .i64 z2,.slice A2 n2 c2] 24)=w3
 have hb3:Below w2.heap.size w2 w3:=by rw[← hW3];exact below_alloc _ _
 have X2:Boxed w3 _ w2.heap.size _ (.int .i64 k2) (.string t2) (.int .i64 a2) (.int .i64 z2) (.slice A2 n2 c2):=⟨by rw[← hW3];exact Blk.new w2 _ _,TreeOwn.keeps (KeepsN.of_below hb3) _ _ hT2⟩
 have hs3:w3.heap.size=w2.heap.size+1:=by rw[← hW3];simp
 have h3:=h2.below hb3;have hR3:=hR2.below hb3 hR2.lt;have P3:=P2.trans (PM.of_below hb3)
 obtain⟨v3,hv3⟩:∃ vv,vv=v2:=⟨_,rfl⟩
 have HV3:=HV2;rw[← hv3]at h3 P3 HV3
 try rw[← hs3]
 clear hv3 hW3 hT2 hs3;have hrl:=hR2.lt
 go_loopg [] f (fun gk wr => ∃ x7 k7 t7 a7 z7 A7 n7 c7 vx,Boxed wr (fun g=>w.heap.size+1≤g∧g≠w2.heap.size) w2.heap.size x7 (.int .i64 k7) (.string t7) (.int .i64 a7) (.int .i64 z7) (.slice A7 n7 c7)∧gk≤f∧parM E.bs E.l gk (.exprL lv v.st.k x7) vx.st=some ([t],q)∧PW wr E vx∧PM E w v wr vx∧Blk wr w.heap.size 24 #[.int .i64 0,.string ⟨#[]⟩,.int .i64 0,.int .i64 0,.slice none 0 0])
 case atStart=>exact⟨x0,k2,t2,a2,z2,A2,n2,c2,v3,X2,Nat.le_refl _,by rw[HV3.out];exact HXL.out,h3,P3,hR3⟩
 case round =>
  obtain⟨x7,k7,t7,a7,z7,A7,n7,c7,v7,X7,hgf,hx7,h7,P7,hR7⟩:=hrel
  cases gk with
  | zero=>simp[parM]at hx7
  | succ gk =>
   rw[parM]at hx7;have HX7:=kH hx7
   obtain⟨b,hb⟩:∃ x,operM E.bs E.l v7.st lv=x:=⟨_,rfl⟩
   have HB:=kH hb;have HGF:Hid (gk≤f):=kH (by omega);clear hx7 hb hgf
   go_wp2_with fail
   have HV7:Hid (v7.st=v7.st):=kH rfl;refine(operator_to E hE v7 _ h7 HV7.out lv (by have:=HL.out.1;omega) HB.out).mono ?_;rintro e w8 ⟨rfl,v8,hv8,h8,hm8⟩;have HV8:=kH hv8;have hR8:=hm8.blk h7 hR7;have P8:=P7.trans hm8
   replace X7:=X7.pm hm8 h7
   clear hv8 hm8
   cases b
   ·have hq:x7=t∧v7.st=q:=by
     have:=HX7.out;rw[HB.out,if_neg (by simp)]at this
     simpa using this
    obtain⟨rfl,hq⟩:=hq;rw[hq]at HV8;obtain⟨⟨qaX7,qbX7,qcX7,qdX7,qeX7⟩,qgX7,qhX7,qiX7,qjX7,qkX7⟩:=X7.1.five;have qlX7:=X7.1.lt;obtain⟨⟨r0,r1,r2,r3,r4⟩,g0,g1,g2,g3,g4⟩:=hR8.five;clear hq
    go_wp2_with fail
    have HEND:=kH (tree_end (v:=v) h8 P8 HV8.out hR8 hgl (TreeOwn.weak (fun g _ hp=>hp.1) _ _ X7.2));refine bodyPost_ret (v:=.agg #[.int .i64 k7,.string t7,.int .i64 a7,.int .i64 z7,.slice A7 n7 c7]) (by simp[results,Tryz.results134,go_sem,r0,r1,r2,r3,r4]) rfl ?_;exact HEND.out
   ·obtain⟨x9,q9,hx,hnx⟩:∃ x9 q9,parM E.bs E.l gk (.expr (lv+1)) (readM E.l v7.st)=some ([x9],q9)∧(if lv=4 then t=nodeM E.l q9 v.st.k 29 (wordM E.bs E.l v7.st.k) [x7,x9]∧q=q9 else parM E.bs E.l gk (.exprL lv v.st.k (nodeM E.l q9 v.st.k 29 (wordM E.bs E.l v7.st.k) [x7,x9])) q9=some ([t],q)):=by
     have:=HX7.out;rw[HB.out,if_pos rfl]at this;obtain⟨x,p,h1,h2⟩:=one_some this;refine⟨x,p,h1,?_⟩
     by_cases h4:lv=4
     ·rw[if_pos h4]at h2 ⊢
      simp at h2;exact⟨h2.1.symm,h2.2.symm⟩
     ·rw[if_neg h4]at h2 ⊢
      exact h2
    have HX:=kH hx;have HNX:=kH hnx;clear hx hnx
    go_wp2_with fail
    refine(read_to E hE v8 _ h8 HV8.out (oper_not5 HB.out)).mono ?_;rintro e w9 ⟨rfl,v9,hv9,h9,hm9⟩;have HV9:=kH hv9;have hR9:=hm9.blk h8 hR8;have P9:=P8.trans hm9
    replace X7:=X7.pm hm9 h8
    clear hv9 hm9;have hcall:=(HIH.out gk (by have:=HGF.out;omega)).expr (lv+1) v9 w9 x9 q9 h9 (by omega) HL.out.1 (by rw[HV9.out];exact HX.out);have HC9:=kH hcall;clear hcall
    go_wp2_with fail
    have hg9:w2.heap.size < w9.heap.size:=X7.1.lt;refine(HC9.out).mono ?_;rintro e w10 ⟨k10,t10,a10,z10,A10,n10,c10,rfl,hT10,v10,hv10,h10,hm10⟩
    try dsimp only at hv10 hT10
    have HV10:=kH hv10;have hR10:=hm10.blk h9 hR9;have P10:=P9.trans hm10
    replace hT10:=TreeOwn.weak (Q:=fun g=>w.heap.size+1≤g∧g≠w2.heap.size) (fun g _ hg=>⟨Nat.le_trans hR9.lt hg,by omega⟩) _ _ hT10
    replace X7:=X7.pm hm10 h9
    clear hv10 hm10;have hsz:=P10.since.size;obtain⟨⟨qaX7,qbX7,qcX7,qdX7,qeX7⟩,qgX7,qhX7,qiX7,qjX7,qkX7⟩:=X7.1.five;have qlX7:=X7.1.lt
    go_wp2_with fail
    clear qaX7 qbX7 qcX7 qdX7 qeX7 qgX7 qhX7 qiX7 qjX7 qkX7 qlX7
    generalize hW11:w10.alloc (.cells #[.int .i64 k10,.string t10,.int .i64 a10,.int .i64 z10,.slice A10 n10 c10] 24)=w11
    have hb11:Below w10.heap.size w10 w11:=by rw[← hW11];exact below_alloc _ _
    have X10:Boxed w11 _ w10.heap.size _ (.int .i64 k10) (.string t10) (.int .i64 a10) (.int .i64 z10) (.slice A10 n10 c10):=⟨by rw[← hW11];exact Blk.new w10 _ _,TreeOwn.keeps (KeepsN.of_below hb11) _ _ hT10⟩
    have hs11:w11.heap.size=w10.heap.size+1:=by rw[← hW11];simp
    have h11:=h10.below hb11;have hR11:=hR10.below hb11 hR10.lt;have P11:=P10.trans (PM.of_below hb11)
    replace X7:=X7.below hb11
    obtain⟨v11,hv11⟩:∃ vv,vv=v10:=⟨_,rfl⟩
    have HV11:=HV10;rw[← hv11]at h11 P11 HV11
    try rw[← hs11]
    clear hv11 hW11 hT10 hs11
    have hlo11:w.heap.size+1≤w11.heap.size:=by have:=hR11.lt;omega
    have hg11:w2.heap.size < w11.heap.size:=X7.1.lt;have HK12:=kH (kids_lit2 (TreeOwn.weak (fun g _ hp=>hp.1) _ _ X7.2) (TreeOwn.weak (fun g _ hp=>hp.1) _ _ X10.2) hlo11)
    have hN12:=fun k x a e=>lit2P X7.2 X10.2 (P:=fun g=>w.heap.size+1≤g∧g≠w2.heap.size) ⟨hlo11,by omega⟩ k x a e
    generalize hW12:w11.alloc (.cells #[.int .i64 k7,.string t7,.int .i64 a7,.int .i64 z7,.slice A7 n7 c7,.int .i64 k10,.string t10,.int .i64 a10,.int .i64 z10,.slice A10 n10 c10] 24)=w12 at HK12 hN12 ⊢
    have hb12:Below w11.heap.size w11 w12:=by rw[← hW12];exact below_alloc _ _
    have h12:=h11.below hb12;have hR12:=hR11.below hb12 hR11.lt;have P12:=P11.trans (PM.of_below hb12);have hX12:=X7.1.below hb12 hg11;clear hW12;refine(node_any E hE v11 _ h12 v.st.k 29 (wordM E.bs E.l v7.st.k) (w.heap.size+1) (some ⟨w11.heap.size,0,none⟩) 2 2 [x7,x9] HK12.out).mono ?_;rintro e w13 ⟨rfl,hb13⟩;have h13:=h12.below hb13;have hR13:=hR12.below hb13 hR12.lt;have P13:=P12.trans (PM.of_below hb13);have hX13:=hX12.below hb13 hX12.lt;have hN13:=TreeOwn.keeps (KeepsN.of_below hb13) _ _ (hN12 29 (mkS (wordM E.bs E.l v7.st.k)) (nodeAt E.l v11.st v.st.k [x7,x9]) (v11.st.last:Int));obtain⟨h14,P14,hB14,hk14⟩:=store_box h13 P13 hX13 (by have:=X7.1.lt;omega) (.int .i64 29) (.string (mkS (wordM E.bs E.l v7.st.k))) (.int .i64 (nodeAt E.l v11.st v.st.k [x7,x9])) (.int .i64 (v11.st.last:Int)) (.slice (some ⟨w11.heap.size,0,none⟩) 2 2);have hR14:=hR13.keep (hk14 w.heap.size _ (by omega) hR13);have hN14:=TreeOwn.keeps (w':=set5 w13 w2.heap.size (.int .i64 29) (.string (mkS (wordM E.bs E.l v7.st.k))) (.int .i64 (nodeAt E.l v11.st v.st.k [x7,x9])) (.int .i64 (v11.st.last:Int)) (.slice (some ⟨w11.heap.size,0,none⟩) 2 2)) (fun g cs hP hc=>hk14 g cs hP.2 hc) _ _ hN13;have H14:=kH h14;have PP14:=kH P14;have HB14:=kH hB14;have HR14:=kH hR14;have HN14:=kH hN14;have HV11':=kH (HV11.out.symm);obtain⟨⟨q0,q1,q2,q3,q4⟩,qg0,qg1,qg2,qg3,qg4⟩:=hX13.five;obtain⟨⟨r0,r1,r2,r3,r4⟩,g0,g1,g2,g3,g4⟩:=hR13.five;have hl13:=hX13.lt;have hlr13:=hR13.lt;clear h14 P14 hB14 hk14 hN14 hN13 hN12 hX12 hR14 X7 X10
    cases b4
    ·have hr4:=HNX.out
     rw[if_neg (of_decide_eq_false HB4.out)]at hr4;have HR4:=kH hr4;clear hr4
     go_wp2_with fail
     go_roundg gk
     case measure=>omega
     case rel=>exact⟨_,29,_,_,_,_,2,2,v11,⟨HB14.out,HN14.out⟩,HGF.out,by have:=HR4.out;rw[← HV11.out]at this;exact this,H14.out,PP14.out,HR14.out⟩
    ·have hr4:=HNX.out
     rw[if_pos (of_decide_eq_true HB4.out)]at hr4;have HR4:=kH hr4;clear hr4
     go_wp2_with fail
     have HEND:=kH (tree_end (v:=v) H14.out PP14.out HV11.out HR14.out hgl (TreeOwn.weak (fun g _ hp=>hp.1) _ _ HN14.out));refine bodyPost_ret (v:=.agg #[.int .i64 29,.string (mkS (wordM E.bs E.l v7.st.k)),.int .i64 (nodeAt E.l v11.st v.st.k [x7,x9]),.int .i64 (v11.st.last:Int),.slice (some ⟨w11.heap.size,0,none⟩) 2 2]) (by simp[results,Tryz.results134,go_sem,r0,r1,r2,r3,r4]) rfl ?_
     have e1:t=Tree.node 29 (mkS (wordM E.bs E.l v7.st.k)) (nodeAt E.l v11.st v.st.k [x7,x9]) (v11.st.last:Int) [x7,x9]:=by rw[HR4.out.1,← HV11.out];rfl
     rw[e1,HR4.out.2];exact HEND.out
end Go.Proofs.YtoepemlnlpamlaaGreat
namespace Go.Proofs.YtoepemlnlpamlaaGreat
set_option maxRecDepth 100000
set_option maxHeartbeats 4000000
open Go.RowKit
theorem variable_to (E:PE) (hE:E.Ok) (v:PV) (w:World) (hpw:PW w E v) {p:PS} (hst:v.st=p):Calls Tryz.prog 187 #[.pointer (some ⟨E.gp,0,none⟩)] w (TreeRes E w v (varM E.bs E.l p)):=by
 subst hst;exact variable_any E hE v w hpw
theorem behind_ready {s:Bytes} {l:List Tok} (he:EndsEmpty s l) {p:PS} (h:behindM s l p = [40]):kindM l (readM l p)≠5:=by
 intro h5;have:=he (p.k+1) h5;unfold behindM at h;split at h
 ·rw[this]at h
  cases h
 ·cases h
theorem KidsOwn.low {w:World} {lo lo':Nat} {v:Value} {n:Nat} {ts:List Tree} (h:KidsOwn w lo v n ts) (hl:lo'≤lo):KidsOwn w lo' v n ts:=by
 obtain⟨vals,h1,h2,h3⟩:=h;exact⟨vals,h1.mono hl,TreesOwn.weak (fun g _ hp=>⟨Nat.le_trans hl hp.1,hp.2⟩) _ _ h2,h3⟩
theorem operand_any (E:PE) (hE:E.Ok) (f:Nat) (IH:∀ f',f'≤f→AnsW E f') (v:PV) (w:World) (t:Tree) (q:PS) (hpw:PW w E v) (hr:parM E.bs E.l (f+1) .operand v.st=some ([t],q)):Calls Tryz.prog 185 #[.pointer (some ⟨E.gp,0,none⟩)] w (TreeRes E w v (t,q)):=by
 rw[parM]at hr;have HR:=kH hr;have HIH:=kH IH;clear hr IH;obtain⟨i0,hi0,hz0,hz1,hz2⟩:=info_parts node_info;have hgl:=hpw.blk.lt;have hk2:w.cell? ⟨E.gp,2,none⟩=some (.int .i64 (v.st.k:Int)):=hpw.blk.cell 2
 obtain⟨k,hk⟩:∃ x,kindM E.l v.st=x:=⟨_,rfl⟩
 have HK:=kH hk
 obtain⟨b1,hb1⟩:∃ x,isM E.bs E.l v.st [116,114,117,101] = x:=⟨_,rfl⟩
 have HB1:=kH hb1
 obtain⟨b2,hb2⟩:∃ x,isM E.bs E.l v.st [102,97,108,115,101] = x:=⟨_,rfl⟩
 have HB2:=kH hb2
 obtain⟨b3,hb3⟩:∃ x,isM E.bs E.l v.st [91] = x:=⟨_,rfl⟩
 have HB3:=kH hb3
 obtain⟨b4,hb4⟩:∃ x,isM E.bs E.l v.st [108,101,110] = x:=⟨_,rfl⟩
 have HB4:=kH hb4
 obtain⟨b5,hb5⟩:∃ x,isM E.bs E.l v.st [40] = x:=⟨_,rfl⟩
 have HB5:=kH hb5;clear hk hb1 hb2 hb3 hb4 hb5
 go_enter Tryz.func185,Tryz.ntmps185
 go_wp2_with fail
 generalize hW1:w.alloc (.cells #[.int .i64 0,.string ⟨#[]⟩,.int .i64 0,.int .i64 0,.slice none 0 0] 24)=W1
 have hb1:Below w.heap.size w W1:=by rw[← hW1];exact below_alloc _ _
 have hR1:Blk W1 w.heap.size 24 #[.int .i64 0,.string ⟨#[]⟩,.int .i64 0,.int .i64 0,.slice none 0 0]:=by rw[← hW1];exact Blk.new w _ _
 have hs1:W1.heap.size=w.heap.size+1:=by rw[← hW1];simp
 have hm1:=PM.of_below (E:=E) (v:=v) hb1;have h1:=hpw.below hb1;have P1:=hm1;have HS1:=kH hs1;have HM1:=kH hm1;clear hW1 hs1 hm1 hb1;clear hk2;have HV1:Hid (v.st=v.st):=kH rfl;refine(kind_to E hE v _ h1 HV1.out HK.out).mono ?_;rintro e w2 ⟨rfl,v2,hv2,h2,hm2⟩;have HV2:=kH hv2;have hR2:=hm2.blk h1 hR1;have P2:=P1.trans hm2;clear hv2 hm2
 by_cases hk2:k=2
 ·subst hk2
  go_wp2_with fail
  refine(read_to E hE v2 _ h2 HV2.out (by rw[HK.out];decide)).mono ?_;rintro e w3 ⟨rfl,v3,hv3,h3,hm3⟩;have HV3:=kH hv3;have hR3:=hm3.blk h2 hR2;have P3:=P2.trans hm3;clear hv3 hm3
  go_wp2_with fail
  refine(digits_any (mkS (wordM E.bs E.l v.st.k)) _ (word_size hE _)).mono ?_;rintro e w7 ⟨rfl,rfl⟩;have hdt:mkS (digitsM (mkS (wordM E.bs E.l v.st.k)).data.toList)=mkS (digitsM (wordM E.bs E.l v.st.k)):=rfl;rw[hdt];clear hdt
  have HRES:Hid ((t,q)=(nodeM E.l (readM E.l v.st) v.st.k 24 (digitsM (wordM E.bs E.l v.st.k)) [],readM E.l v.st)):=kH (by
   have:=HR.out;rw[HK.out,if_pos rfl]at this;simp at this
   rw[← this.1,← this.2])
  go_wp2_with fail
  refine(leaf_any E hE v3 _ h3 v.st.k 24 (digitsM (wordM E.bs E.l v.st.k)) (w.heap.size+1)).mono ?_;rintro e w4 ⟨rfl,hb4,hT4⟩;have h4:=h3.below hb4;have hR4:=hR3.below hb4 hR3.lt;obtain⟨⟨r0,r1,r2,r3,r4⟩,g0,g1,g2,g3,g4⟩:=hR4.five
  go_wp2_with fail
  have HEND:=kH (tree_end (v:=v) h4 (P3.trans (PM.of_below hb4)) rfl hR4 hgl hT4);clear hT4;refine bodyPost_ret (v:=.agg #[.int .i64 24,.string (mkS (digitsM (wordM E.bs E.l v.st.k))),.int .i64 (nodeAt E.l v3.st v.st.k []),.int .i64 (v3.st.last:Int),.slice none 0 0]) (by simp[results,Tryz.results185,go_sem,r0,r1,r2,r3,r4]) rfl ?_;exact Eq.mp (congrArg (fun r=>TreeRes E w v r _ _) (show (nodeM E.l v3.st v.st.k 24 (digitsM (wordM E.bs E.l v.st.k)) [],v3.st)=_ by rw[HV3.out,HRES.out])) HEND.out
 have hki:((k:Int) == 2)=false:=by simp;omega
 have hkn:(k == 2)=false:=by simp[hk2]
 have hR2:=HR.out;rw[if_neg (by rw[HK.out];exact hk2)]at hR2
 replace HR:=kH hR2
 clear hR2 hk2
 go_wp2_with fail
 refine(is_to E hE v2 _ h2 HV2.out [116,114,117,101] HB1.out).mono ?_;rintro e w3 ⟨rfl,v3,hv3,h3,hm3⟩;have HV3:=kH hv3;have hR3:=hm3.blk h2 hR2;have P3:=P2.trans hm3;clear hv3 hm3
 cases b1
 case true =>
  have HRES:Hid ((t,q)=(nodeM E.l (readM E.l v.st) v.st.k 25 (wordM E.bs E.l v.st.k) [],readM E.l v.st)):=kH (by
   have:=HR.out;rw[HB1.out,if_pos (by simp)]at this;simp at this
   rw[← this.1,← this.2])
  go_wp2_with fail
  refine(read_to E hE v3 _ h3 HV3.out (is_not5 HB1.out)).mono ?_;rintro e w4 ⟨rfl,v4,hv4,h4,hm4⟩;have HV4:=kH hv4;have hR4:=hm4.blk h3 hR3;have P4:=P3.trans hm4;clear hv4 hm4
  go_wp2_with fail
  refine(leaf_any E hE v4 _ h4 v.st.k 25 (wordM E.bs E.l v.st.k) (w.heap.size+1)).mono ?_;rintro e w5 ⟨rfl,hb5,hT5⟩;have h5:=h4.below hb5;have hR5:=hR4.below hb5 hR4.lt;obtain⟨⟨r0,r1,r2,r3,r4⟩,g0,g1,g2,g3,g4⟩:=hR5.five
  go_wp2_with fail
  have HEND:=kH (tree_end (v:=v) h5 (P4.trans (PM.of_below hb5)) rfl hR5 hgl hT5);clear hT5;refine bodyPost_ret (v:=.agg #[.int .i64 25,.string (mkS (wordM E.bs E.l v.st.k)),.int .i64 (nodeAt E.l v4.st v.st.k []),.int .i64 (v4.st.last:Int),.slice none 0 0]) (by simp[results,Tryz.results185,go_sem,r0,r1,r2,r3,r4]) rfl ?_;exact Eq.mp (congrArg (fun r=>TreeRes E w v r _ _) (show (nodeM E.l v4.st v.st.k 25 (wordM E.bs E.l v.st.k) [],v4.st)=_ by rw[HV4.out,HRES.out])) HEND.out
 go_wp2_with fail
 refine(is_to E hE v3 _ h3 HV3.out [102,97,108,115,101] HB2.out).mono ?_;rintro e w4 ⟨rfl,v4,hv4,h4,hm4⟩;have HV4:=kH hv4;have hR4:=hm4.blk h3 hR3;have P4:=P3.trans hm4;clear hv4 hm4
 cases b2
 case true =>
  have HRES:Hid ((t,q)=(nodeM E.l (readM E.l v.st) v.st.k 25 (wordM E.bs E.l v.st.k) [],readM E.l v.st)):=kH (by
   have:=HR.out;rw[HB1.out,HB2.out,if_pos (by simp)]at this;simp at this
   rw[← this.1,← this.2])
  go_wp2_with fail
  refine(read_to E hE v4 _ h4 HV4.out (is_not5 HB2.out)).mono ?_;rintro e w5 ⟨rfl,v5,hv5,h5,hm5⟩;have HV5:=kH hv5;have hR5:=hm5.blk h4 hR4;have P5:=P4.trans hm5;clear hv5 hm5
  go_wp2_with fail
  refine(leaf_any E hE v5 _ h5 v.st.k 25 (wordM E.bs E.l v.st.k) (w.heap.size+1)).mono ?_;rintro e w6 ⟨rfl,hb6,hT6⟩;have h6:=h5.below hb6;have hR6:=hR5.below hb6 hR5.lt;obtain⟨⟨r0,r1,r2,r3,r4⟩,g0,g1,g2,g3,g4⟩:=hR6.five
  go_wp2_with fail
  have HEND:=kH (tree_end (v:=v) h6 (P5.trans (PM.of_below hb6)) rfl hR6 hgl hT6);clear hT6;refine bodyPost_ret (v:=.agg #[.int .i64 25,.string (mkS (wordM E.bs E.l v.st.k)),.int .i64 (nodeAt E.l v5.st v.st.k []),.int .i64 (v5.st.last:Int),.slice none 0 0]) (by simp[results,Tryz.results185,go_sem,r0,r1,r2,r3,r4]) rfl ?_;exact Eq.mp (congrArg (fun r=>TreeRes E w v r _ _) (show (nodeM E.l v5.st v.st.k 25 (wordM E.bs E.l v.st.k) [],v5.st)=_ by rw[HV5.out,HRES.out])) HEND.out
 have hR2:=HR.out;rw[HB1.out,HB2.out,if_neg (by simp)]at hR2
 replace HR:=kH hR2
 clear hR2
 go_wp2_with fail
 refine(kind_to E hE v4 _ h4 HV4.out HK.out).mono ?_;rintro e w5 ⟨rfl,v5,hv5,h5,hm5⟩;have HV5:=kH hv5;have hR5:=hm5.blk h4 hR4;have P5:=P4.trans hm5;clear hv5 hm5
 by_cases hk0:k=0
 ·subst hk0
  obtain⟨x,hx⟩:∃ x,behindM E.bs E.l v.st=x:=⟨_,rfl⟩
  have HX:=kH hx;clear hx
  go_wp2_with fail
  refine(behind_to E hE v5 _ h5 HV5.out HX.out).mono ?_;rintro e w6 ⟨rfl,v6,hv6,h6,hm6⟩;have HV6:=kH hv6;have hR6:=hm6.blk h5 hR5;have P6:=P5.trans hm6;clear hv6 hm6
  by_cases hpar:x = [40]
  ·subst hpar
   obtain⟨kids,q1,hy,hrq⟩:∃ kids q1,parM E.bs E.l f .args (readM E.l v.st)=some (kids,q1)∧(t,q)=(nodeM E.l q1 v.st.k 27 (wordM E.bs E.l v.st.k) kids,q1):=by
    have:=HR.out;rw[if_pos (by rw[HK.out,HX.out];simp)]at this;obtain⟨ks,p,h1,h2⟩:=many_some this;simp at h2;exact⟨ks,p,h1,by rw[← h2.1,← h2.2]⟩
   have HY:=kH hy;have HRES:=kH hrq;have e40:mkS [40] =⟨#[40]⟩:=rfl;rw[e40];clear hy hrq e40
   go_wp2_with fail
   refine(read_to E hE v6 _ h6 HV6.out (by rw[HK.out];decide)).mono ?_;rintro e w7 ⟨rfl,v7,hv7,h7,hm7⟩;have HV7:=kH hv7;have hR7:=hm7.blk h6 hR6;have P7:=P6.trans hm7;clear hv7 hm7;have hcall:=(HIH.out f (Nat.le_refl _)).args v7 w7 kids q1 h7 (by rw[HV7.out];exact behind_ready hE.empty HX.out) (by rw[HV7.out];exact HY.out);have HC:=kH hcall;clear hcall
   go_wp2_with fail
   refine HC.out.mono ?_;rintro e w8 ⟨A8,n8,c8,rfl,hK8,v8,hv8,h8,hm8⟩;have HV8:=kH hv8;have hR8:=hm8.blk h7 hR7;have P8:=P7.trans hm8;have HK8:=kH (hK8.low (lo':=w.heap.size+1) hR7.lt);clear hv8 hm8 hK8
   go_wp2_with fail
   refine(nodek_any E hE v8 _ h8 v.st.k 27 (wordM E.bs E.l v.st.k) (w.heap.size+1) A8 n8 c8 kids HK8.out).mono ?_;rintro e w9 ⟨rfl,hb9,hT9⟩;have h9:=h8.below hb9;have hR9:=hR8.below hb9 hR8.lt;obtain⟨⟨r0,r1,r2,r3,r4⟩,g0,g1,g2,g3,g4⟩:=hR9.five
   go_wp2_with fail
   have HEND:=kH (tree_end (v:=v) h9 (P8.trans (PM.of_below hb9)) rfl hR9 hgl hT9);clear hT9;refine bodyPost_ret (v:=.agg #[.int .i64 27,.string (mkS (wordM E.bs E.l v.st.k)),.int .i64 (nodeAt E.l v8.st v.st.k kids),.int .i64 (v8.st.last:Int),.slice A8 n8 c8]) (by simp[results,Tryz.results185,go_sem,r0,r1,r2,r3,r4]) rfl ?_;exact Eq.mp (congrArg (fun r=>TreeRes E w v r _ _) (show (nodeM E.l v8.st v.st.k 27 (wordM E.bs E.l v.st.k) kids,v8.st)=_ by rw[HRES.out,HV8.out])) HEND.out
  ·obtain⟨wd,hwd⟩:∃ y,mkS x=y:=⟨_,rfl⟩
   have hwf:(wd.data.toList == [40])=false:=by rw[← hwd];simpa [mkS] using hpar
   have hwf2:(wd.toList == [40])=false:=by rw[ByteArray.toList_eq];exact hwf
   rw[hwd];have hR2:=HR.out;rw[if_neg (by rw[HK.out,HX.out];simp[hpar]),if_pos HK.out]at hR2
   replace HR:=kH hR2
   clear hR2 hwd hpar
   go_wp2_with fail
   refine(kind_to E hE v6 _ h6 HV6.out HK.out).mono ?_;rintro e w7 ⟨rfl,v7,hv7,h7,hm7⟩;have HV7:=kH hv7;have hR7:=hm7.blk h6 hR6;have P7:=P6.trans hm7;clear hv7 hm7;have hcall:=(HIH.out f (Nat.le_refl _)).place v7 w7 t q h7 (by rw[HV7.out];exact HR.out);have HC:=kH hcall;clear hcall
   go_wp2_with fail
   refine(HC.out).mono ?_;rintro e w8 ⟨k8,t8,a8,z8,A8,n8,c8,rfl,hT8,v8,hv8,h8,hm8⟩
   try dsimp only at hv8 hT8
   have HV8:=kH hv8;have hR8:=hm8.blk h7 hR7;have P8:=P7.trans hm8
   replace hT8:=TreeOwn.weak (Q:=fun g=>w.heap.size+1≤g) (fun g _ hg=>Nat.le_trans hR7.lt hg) _ _ hT8
   clear hv8 hm8;have HRES:=trivial;obtain⟨⟨r0,r1,r2,r3,r4⟩,g0,g1,g2,g3,g4⟩:=hR8.five
   go_wp2_with fail
   have HEND:=kH (tree_end (v:=v) h8 P8 rfl hR8 hgl hT8);clear hT8;rw[HV8.out]at HEND;refine bodyPost_ret (v:=.agg #[.int .i64 k8,.string t8,.int .i64 a8,.int .i64 z8,.slice A8 n8 c8]) (by simp[results,Tryz.results185,go_sem,r0,r1,r2,r3,r4]) rfl ?_
   try rw[HRES.out]
   exact HEND.out
 have hki0:((k:Int) == 0)=false:=by simp;omega
 have hkn0:(k == 0)=false:=by simp[hk0]
 have hR2:=HR.out;rw[if_neg (by rw[HK.out];simp[hk0]),if_neg (by rw[HK.out];exact hk0)]at hR2
 replace HR:=kH hR2
 clear hR2 hk0
 go_wp2_with fail
 refine(kind_to E hE v5 _ h5 HV5.out HK.out).mono ?_;rintro e w6 ⟨rfl,v6,hv6,h6,hm6⟩;have HV6:=kH hv6;have hR6:=hm6.blk h5 hR5;have P6:=P5.trans hm6;clear hv6 hm6
 go_wp2_with fail
 cases b3
 case true =>
  obtain⟨x8,q8,kids,q1,hx,hy,hrq⟩:∃ x q8 kids q1,parM E.bs E.l f (.expr 1) (readM E.l v.st)=some ([x],q8)∧parM E.bs E.l f (.argsL [x]) q8=some (kids,q1)∧(t,q)=(nodeM E.l (expectM E.bs E.l q1 [93]) v.st.k 26 [] kids,expectM E.bs E.l q1 [93]):=by
   have:=HR.out;rw[HB3.out,if_pos rfl]at this;obtain⟨x,p,h1,h2⟩:=one_some this;obtain⟨ks,p2,h3,h4⟩:=many_some h2;simp at h4;exact⟨x,p,ks,p2,h1,h3,by rw[← h4.1,← h4.2]⟩
  have HX:=kH hx;have HY:=kH hy;have HRES:=kH hrq;clear hx hy hrq HR;refine(accept_yes E hE v6 _ h6 HV6.out [91] HB3.out).mono ?_;rintro e w7 ⟨rfl,v7,hv7,h7,hm7⟩;have HV7:=kH hv7;have hR7:=hm7.blk h6 hR6;have P7:=P6.trans hm7;clear hv7 hm7;have hcall:=(HIH.out f (Nat.le_refl _)).expr 1 v7 w7 x8 q8 h7 (by omega) (by omega) (by rw[HV7.out];exact HX.out);have HC:=kH hcall;clear hcall
  go_wp2_with fail
  refine(HC.out).mono ?_;rintro e w8 ⟨k8,t8,a8,z8,A8,n8,c8,rfl,hT8,v8,hv8,h8,hm8⟩
  try dsimp only at hv8 hT8
  have HV8:=kH hv8;have hR8:=hm8.blk h7 hR7;have P8:=P7.trans hm8
  replace hT8:=TreeOwn.weak (Q:=fun g=>w.heap.size+1≤g) (fun g _ hg=>Nat.le_trans hR7.lt hg) _ _ hT8
  clear hv8 hm8
  go_wp2_with fail
  have HK9:=kH (kids_lit1 hT8 (by have:=hR8.lt;omega))
  generalize hW9:w8.alloc (.cells #[.int .i64 k8,.string t8,.int .i64 a8,.int .i64 z8,.slice A8 n8 c8] 24)=w9 at HK9 ⊢
  have hb9:Below w8.heap.size w8 w9:=by rw[← hW9];exact below_alloc _ _
  have h9:=h8.below hb9;have hR9:=hR8.below hb9 hR8.lt;have P9:=P8.trans (PM.of_below hb9);clear hW9
  go_loopg [6] f (fun gk s6 wr => ∃ A n c vx ts,s6 = .slice A n c∧KidsOwn wr (w.heap.size+1) (.slice A n c) n ts∧gk≤f∧parM E.bs E.l gk (.argsL ts) vx.st=some (kids,q1)∧n≤vx.st.k+1∧PW wr E vx∧PM E w v wr vx∧Blk wr w.heap.size 24 #[.int .i64 0,.string ⟨#[]⟩,.int .i64 0,.int .i64 0,.slice none 0 0])
  case atStart=>exact⟨_,1,_,v8,[x8],rfl,HK9.out,Nat.le_refl _,by rw[HV8.out];exact HY.out,by omega,h9,P9,hR9⟩
  case round =>
   obtain⟨A17,n17,c17,v17,ts17,rfl,hK17,hgf,hx17,hn17,h17,P17,hR17⟩:=hrel
   cases gk with
   | zero=>simp[parM]at hx17
   | succ gk =>
    rw[parM]at hx17;have HX17:=kH hx17;have HK17:=kH hK17;have hat17:=h17.at_;have hmost:=hE.most;clear hx17 hK17
    obtain⟨b7,hb7⟩:∃ x,isM E.bs E.l v17.st [44] = x:=⟨_,rfl⟩
    have HB7:=kH hb7;clear hb7
    go_wp2_with fail
    refine(accept_any E hE v17 [44] _ h17).mono ?_;rintro e w18 ⟨rfl,v18,hv18,h18,hm18⟩;rw[HB7.out];have HV18:=kH hv18;have hR18:=hm18.blk h17 hR17;have P18:=P17.trans hm18;have HK18:=kH (HK17.out.keeps (hm18.keepsN h17));clear hv18 hm18
    cases b7
    ·have hst:v18.st=v17.st:=by
      rw[HV18.out];unfold acceptM;rw[HB7.out,if_neg (by simp)]
     have hkk:ts17=kids∧v17.st=q1:=by
      have:=HX17.out;rw[HB7.out,if_neg (by simp)]at this
      simpa using this
     obtain⟨rfl,hq7⟩:=hkk;have HQ7:=kH (hst.trans hq7);clear hst hq7
     go_wp2_with fail
     refine(expect_any E hE v18 [93] _ h18).mono ?_;rintro e w12 ⟨rfl,v12,hv12,h12,hm12⟩;have HV12:=kH hv12;rw[HQ7.out]at HV12;have hR12:=hm12.blk h18 hR18;have P12:=P18.trans hm12;have HK12:=kH (HK18.out.keeps (hm12.keepsN h18));clear hv12 hm12
     go_wp2_with fail
     refine(nodek_any E hE v12 _ h12 v.st.k 26 [] (w.heap.size+1) A17 n17 c17 ts17 HK12.out).mono ?_;rintro e w13 ⟨rfl,hb13,hT13⟩;have h13:=h12.below hb13;have hR13:=hR12.below hb13 hR12.lt;obtain⟨⟨r0,r1,r2,r3,r4⟩,g0,g1,g2,g3,g4⟩:=hR13.five
     go_wp2_with fail
     have HEND:=kH (tree_end (v:=v) h13 (P12.trans (PM.of_below hb13)) rfl hR13 hgl hT13);clear hT13;refine bodyPost_ret (v:=.agg #[.int .i64 26,.string (mkS []),.int .i64 (nodeAt E.l v12.st v.st.k ts17),.int .i64 (v12.st.last:Int),.slice A17 n17 c17]) (by simp[results,Tryz.results185,go_sem,r0,r1,r2,r3,r4]) rfl ?_;exact Eq.mp (congrArg (fun r=>TreeRes E w v r _ _) (show (nodeM E.l v12.st v.st.k 26 [] ts17,v12.st)=_ by rw[HRES.out,HV12.out])) HEND.out
    ·have hst:v18.st=readM E.l v17.st:=by
      rw[HV18.out];unfold acceptM;rw[HB7.out,if_pos rfl]
     obtain⟨x9,q9,hx9,hnx⟩:∃ x9 q9,parM E.bs E.l gk (.expr 1) v18.st=some ([x9],q9)∧parM E.bs E.l gk (.argsL (ts17 ++ [x9])) q9=some (kids,q1):=by
      have:=HX17.out;rw[HB7.out,if_pos rfl,← hst]at this;exact one_some this
     have hk8:v18.st.k=v17.st.k+1:=by rw[hst];rfl
     have hpr:=par_props hE.ends hE.empty hx9 (by rw[hE.len];exact h18.at_) ⟨by omega,by omega⟩;have hlt:=hpr.1.1;have hcall:=(HIH.out gk (by omega)).expr 1 v18 w18 x9 q9 h18 (by omega) (by omega) hx9;have HCALL:=kH hcall;have HNX:=kH hnx;have HK8K:=kH hk8
     have hn7b:n17≤5001:=by omega
     have HGF:Hid (gk≤f):=kH (by omega);clear hst hpr hx9 hcall hnx hk8
     go_wp2_with fail
     refine HCALL.out.mono ?_;rintro e w19 ⟨k19,t19,a19,z19,A19,n19,c19,rfl,hT19,v19,hv19,h19,hm19⟩;have HV19:=kH hv19;have hR19:=hm19.blk h18 hR18;have P19:=P18.trans hm19;clear hv19;obtain⟨vals20,hO20,hTs20,hn20⟩:=HK18.out.keeps (hm19.keepsN h18);have hTn20:TreeOwn w19 (fun g=>w.heap.size+1≤g∧some g≠(Value.slice A17 n17 c17).ownBlock) _ _:=TreeOwn.weak (fun g _ hg=>⟨Nat.le_trans hR18.lt hg,fun e1=>by obtain⟨_,hO4,_,_⟩:=HK18.out;have:=(hO4.lt g e1.symm).2;omega⟩) _ _ hT19
     have hro20:(Value.slice A17 n17 c17).ownBlock≠some w.heap.size:=fun e1=>by have:=(hO20.lt _ e1).1;omega
     have hrz20:=hR19.lt;have HO20:=kH hO20;have HTs20:=kH hTs20;have HTn20:=kH hTn20;have Hn20:=kH hn20;have HRO20:=kH hro20;clear hO20 hTs20 hTn20 hn20 hro20 hT19
     go_wp2_with (at_builtin;go_must (refine wpList_append_S _ rfl (.tmp 67) (.tmp 70) _ rfl (w.heap.size+1) 24 i0 _ 5 64 Tryz.underlying22 hi0 hz0 hz1 hz2 rfl (.slice A17 n17 c17) n17 (List.flatten vals20) rfl (HO20.out.alloc _) ⟨w19.heap.size,0,none⟩ 1 1 [.int .i64 k19,.string t19,.int .i64 a19,.int .i64 z19,.slice A19 n19 c19] rfl rfl (news_five _ _ _ _ _ _ _ (by go_simp) (by go_simp) (by go_simp) (by go_simp) (by go_simp)) (by simp[Value.oneCell']) (by simp only[maxLen];omega) (by omega) (by simp;omega) ?_);intro vn w20 hown hgrow hat;obtain⟨A20,c20,hvn,-,-⟩:=hown.shape;subst hvn;have HOWN20:=kH hown;have HGROW20:=kH hgrow;have HAT20:=kH hat;clear hown hgrow hat)
     have HK20:=kH (KidsOwn.pushed HTs20.out Hn20.out HTn20.out HOWN20.out HGROW20.out HAT20.out);obtain⟨h20,P20,hkeep20⟩:=append_keeps h19 P19 HO20.out (Nat.le_succ _) HGROW20.out;have hR20:=hkeep20 _ _ hR19 HRO20.out;clear hkeep20
     go_roundg gk
     case measure=>omega
     case rel =>
      refine⟨A20,n17+1,c20,v19,ts17 ++ [x9],rfl,HK20.out,HGF.out,by rw[HV19.out];exact HNX.out,?_,h20,P20,hR20⟩;rw[HV19.out];have:=HK8K.out;show n17+1≤q9.k+1;omega
 have hR2:=HR.out;rw[HB3.out,if_neg (by simp)]at hR2
 replace HR:=kH hR2
 clear hR2;refine(accept_no E hE v6 _ h6 HV6.out [91] HB3.out).mono ?_;rintro e w7 ⟨rfl,v7,hv7,h7,hm7⟩;have HV7:=kH hv7;have hR7:=hm7.blk h6 hR6;have P7:=P6.trans hm7;clear hv7 hm7
 go_wp2_with fail
 cases b4
 case true =>
  have HRES:Hid ((t,q)=(nodeM E.l (expectM E.bs E.l (varM E.bs E.l (expectM E.bs E.l (readM E.l v.st) [40])).2 [41]) v.st.k 23 [] [(varM E.bs E.l (expectM E.bs E.l (readM E.l v.st) [40])).1],expectM E.bs E.l (varM E.bs E.l (expectM E.bs E.l (readM E.l v.st) [40])).2 [41])):=kH (by
   have:=HR.out;rw[HB4.out,if_pos rfl]at this;simp at this
   rw[← this.1,← this.2])
  clear HR;refine(accept_yes E hE v7 _ h7 HV7.out [108,101,110] HB4.out).mono ?_;rintro e w8 ⟨rfl,v8,hv8,h8,hm8⟩;have HV8:=kH hv8;have hR8:=hm8.blk h7 hR7;have P8:=P7.trans hm8;clear hv8 hm8
  go_wp2_with fail
  refine(expect_to E hE v8 _ h8 HV8.out [40]).mono ?_;rintro e w9 ⟨rfl,v9,hv9,h9,hm9⟩;have HV9:=kH hv9;have hR9:=hm9.blk h8 hR8;have P9:=P8.trans hm9;clear hv9 hm9
  go_wp2_with fail
  refine(variable_to E hE v9 _ h9 HV9.out).mono ?_;rintro e w10 ⟨k10,t10,a10,z10,A10,n10,c10,rfl,hT10,v10,hv10,h10,hm10⟩
  try dsimp only at hv10 hT10
  have HV10:=kH hv10;have hR10:=hm10.blk h9 hR9;have P10:=P9.trans hm10
  replace hT10:=TreeOwn.weak (Q:=fun g=>w.heap.size+1≤g) (fun g _ hg=>Nat.le_trans hR9.lt hg) _ _ hT10
  clear hv10 hm10
  go_wp2_with fail
  generalize hW11:w10.alloc (.cells #[.int .i64 k10,.string t10,.int .i64 a10,.int .i64 z10,.slice A10 n10 c10] 24)=w11
  have hb11:Below w10.heap.size w10 w11:=by rw[← hW11];exact below_alloc _ _
  have X10:Boxed w11 _ w10.heap.size _ (.int .i64 k10) (.string t10) (.int .i64 a10) (.int .i64 z10) (.slice A10 n10 c10):=⟨by rw[← hW11];exact Blk.new w10 _ _,TreeOwn.keeps (KeepsN.of_below hb11) _ _ hT10⟩
  have hs11:w11.heap.size=w10.heap.size+1:=by rw[← hW11];simp
  have h11:=h10.below hb11;have hR11:=hR10.below hb11 hR10.lt;have P11:=P10.trans (PM.of_below hb11)
  obtain⟨v11,hv11⟩:∃ vv,vv=v10:=⟨_,rfl⟩
  have HV11:=HV10;rw[← hv11]at h11 P11 HV11
  try rw[← hs11]
  clear hv11 hW11 hT10 hs11;refine(expect_to E hE v11 _ h11 HV11.out [41]).mono ?_;rintro e w12 ⟨rfl,v12,hv12,h12,hm12⟩;have HV12:=kH hv12;have hR12:=hm12.blk h11 hR11;have P12:=P11.trans hm12
  replace X10:=X10.pm hm12 h11
  clear hv12 hm12;obtain⟨⟨qaX10,qbX10,qcX10,qdX10,qeX10⟩,qgX10,qhX10,qiX10,qjX10,qkX10⟩:=X10.1.five;have qlX10:=X10.1.lt
  go_wp2_with fail
  clear qaX10 qbX10 qcX10 qdX10 qeX10 qgX10 qhX10 qiX10 qjX10 qkX10 qlX10;have HK13:=kH (kids_lit1 X10.2 (by have:=hR12.lt;omega))
  generalize hW13:w12.alloc (.cells #[.int .i64 k10,.string t10,.int .i64 a10,.int .i64 z10,.slice A10 n10 c10] 24)=w13 at HK13 ⊢
  have hb13:Below w12.heap.size w12 w13:=by rw[← hW13];exact below_alloc _ _
  have h13:=h12.below hb13;have hR13:=hR12.below hb13 hR12.lt;have P13:=P12.trans (PM.of_below hb13)
  obtain⟨v13,hv13⟩:∃ vv,vv=v12:=⟨_,rfl⟩
  have HV13:=HV12;rw[← hv13]at h13 P13 HV13;clear hv13 hW13;refine(nodek_any E hE v13 _ h13 v.st.k 23 [] (w.heap.size+1) (some ⟨w12.heap.size,0,none⟩) 1 1 [(varM E.bs E.l (expectM E.bs E.l (readM E.l v.st) [40])).1] HK13.out).mono ?_;rintro e w14 ⟨rfl,hb14,hT14⟩;have h14:=h13.below hb14;have hR14:=hR13.below hb14 hR13.lt;obtain⟨⟨r0,r1,r2,r3,r4⟩,g0,g1,g2,g3,g4⟩:=hR14.five
  go_wp2_with fail
  have HEND:=kH (tree_end (v:=v) h14 (P13.trans (PM.of_below hb14)) rfl hR14 hgl hT14);clear hT14;refine bodyPost_ret (v:=.agg #[.int .i64 23,.string (mkS []),.int .i64 (nodeAt E.l v13.st v.st.k [(varM E.bs E.l (expectM E.bs E.l (readM E.l v.st) [40])).1]),.int .i64 (v13.st.last:Int),.slice (some ⟨w12.heap.size,0,none⟩) 1 1]) (by simp[results,Tryz.results185,go_sem,r0,r1,r2,r3,r4]) rfl ?_;exact Eq.mp (congrArg (fun r=>TreeRes E w v r _ _) (show (nodeM E.l v13.st v.st.k 23 [] [(varM E.bs E.l (expectM E.bs E.l (readM E.l v.st) [40])).1],v13.st)=_ by rw[HRES.out,HV13.out])) HEND.out
 have hR2:=HR.out;rw[HB4.out,if_neg (by simp)]at hR2
 replace HR:=kH hR2
 clear hR2;refine(accept_no E hE v7 _ h7 HV7.out [108,101,110] HB4.out).mono ?_;rintro e w8 ⟨rfl,v8,hv8,h8,hm8⟩;have HV8:=kH hv8;have hR8:=hm8.blk h7 hR7;have P8:=P7.trans hm8;clear hv8 hm8
 go_wp2_with fail
 cases b5
 case true =>
  obtain⟨x9,q9,hx,hrq⟩:∃ x q1,parM E.bs E.l f (.expr 1) (readM E.l v.st)=some ([x],q1)∧(t,q)=(x,expectM E.bs E.l q1 [41]):=by
   have:=HR.out;rw[HB5.out,if_pos rfl]at this;obtain⟨x,p,h1,h2⟩:=one_some this;simp at h2;exact⟨x,p,h1,by rw[← h2.1,← h2.2]⟩
  have HX:=kH hx;have HRES:=kH hrq;clear hx hrq HR;refine(accept_yes E hE v8 _ h8 HV8.out [40] HB5.out).mono ?_;rintro e w9 ⟨rfl,v9,hv9,h9,hm9⟩;have HV9:=kH hv9;have hR9:=hm9.blk h8 hR8;have P9:=P8.trans hm9;clear hv9 hm9;have hcall:=(HIH.out f (Nat.le_refl _)).expr 1 v9 w9 x9 q9 h9 (by omega) (by omega) (by rw[HV9.out];exact HX.out);have HC:=kH hcall;clear hcall
  go_wp2_with fail
  refine(HC.out).mono ?_;rintro e w10 ⟨k10,t10,a10,z10,A10,n10,c10,rfl,hT10,v10,hv10,h10,hm10⟩
  try dsimp only at hv10 hT10
  have HV10:=kH hv10;have hR10:=hm10.blk h9 hR9;have P10:=P9.trans hm10
  replace hT10:=TreeOwn.weak (Q:=fun g=>w.heap.size+1≤g) (fun g _ hg=>Nat.le_trans hR9.lt hg) _ _ hT10
  clear hv10 hm10
  go_wp2_with fail
  generalize hW11:w10.alloc (.cells #[.int .i64 k10,.string t10,.int .i64 a10,.int .i64 z10,.slice A10 n10 c10] 24)=w11
  have hb11:Below w10.heap.size w10 w11:=by rw[← hW11];exact below_alloc _ _
  have X10:Boxed w11 _ w10.heap.size _ (.int .i64 k10) (.string t10) (.int .i64 a10) (.int .i64 z10) (.slice A10 n10 c10):=⟨by rw[← hW11];exact Blk.new w10 _ _,TreeOwn.keeps (KeepsN.of_below hb11) _ _ hT10⟩
  have hs11:w11.heap.size=w10.heap.size+1:=by rw[← hW11];simp
  have h11:=h10.below hb11;have hR11:=hR10.below hb11 hR10.lt;have P11:=P10.trans (PM.of_below hb11)
  obtain⟨v11,hv11⟩:∃ vv,vv=v10:=⟨_,rfl⟩
  have HV11:=HV10;rw[← hv11]at h11 P11 HV11
  try rw[← hs11]
  clear hv11 hW11 hT10 hs11;refine(expect_to E hE v11 _ h11 HV11.out [41]).mono ?_;rintro e w12 ⟨rfl,v12,hv12,h12,hm12⟩;have HV12:=kH hv12;have hR12:=hm12.blk h11 hR11;have P12:=P11.trans hm12
  replace X10:=X10.pm hm12 h11
  clear hv12 hm12;obtain⟨⟨qaX10,qbX10,qcX10,qdX10,qeX10⟩,qgX10,qhX10,qiX10,qjX10,qkX10⟩:=X10.1.five;have qlX10:=X10.1.lt;obtain⟨⟨r0,r1,r2,r3,r4⟩,g0,g1,g2,g3,g4⟩:=hR12.five
  go_wp2_with fail
  have HEND:=kH (tree_end (v:=v) h12 P12 HV12.out hR12 hgl X10.2);refine bodyPost_ret (v:=.agg #[.int .i64 k10,.string t10,.int .i64 a10,.int .i64 z10,.slice A10 n10 c10]) (by simp[results,Tryz.results185,go_sem,r0,r1,r2,r3,r4]) rfl ?_;rw[HRES.out];exact HEND.out
 have HRES:Hid ((t,q)=(nodeM E.l (repM E.l v.st 5 []) v.st.k 1 [] [],repM E.l v.st 5 [])):=kH (by
  have:=HR.out;rw[HB5.out,if_neg (by simp)]at this;simp at this
  rw[← this.1,← this.2])
 clear HR;refine(accept_no E hE v8 _ h8 HV8.out [40] HB5.out).mono ?_;rintro e w9 ⟨rfl,v9,hv9,h9,hm9⟩;have HV9:=kH hv9;have hR9:=hm9.blk h8 hR8;have P9:=P8.trans hm9;clear hv9 hm9
 go_wp2_with fail
 refine(report_to E hE v9 _ h9 HV9.out 5 []).mono ?_;rintro e w10 ⟨⟨u10,rfl⟩,v10,hv10,h10,hm10⟩;have HV10:=kH hv10;have hR10:=hm10.blk h9 hR9;have P10:=P9.trans hm10;clear hv10 hm10
 go_wp2_with fail
 refine(leaf_any E hE v10 _ h10 v.st.k 1 [] (w.heap.size+1)).mono ?_;rintro e w11 ⟨rfl,hb11,hT11⟩;have h11:=h10.below hb11;have hR11:=hR10.below hb11 hR10.lt;obtain⟨⟨r0,r1,r2,r3,r4⟩,g0,g1,g2,g3,g4⟩:=hR11.five
 go_wp2_with fail
 have HEND:=kH (tree_end (v:=v) h11 (P10.trans (PM.of_below hb11)) rfl hR11 hgl hT11);clear hT11;refine bodyPost_ret (v:=.agg #[.int .i64 1,.string (mkS []),.int .i64 (nodeAt E.l v10.st v.st.k []),.int .i64 (v10.st.last:Int),.slice none 0 0]) (by simp[results,Tryz.results185,go_sem,r0,r1,r2,r3,r4]) rfl ?_;exact Eq.mp (congrArg (fun r=>TreeRes E w v r _ _) (show (nodeM E.l v10.st v.st.k 1 [] [],v10.st)=_ by rw[HV10.out,HRES.out])) HEND.out
end Go.Proofs.YtoepemlnlpamlaaGreat
