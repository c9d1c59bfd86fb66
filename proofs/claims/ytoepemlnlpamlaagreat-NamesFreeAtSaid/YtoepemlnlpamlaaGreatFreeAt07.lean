/- The law NamesFreeAt holds: for every text and every number the law returns true, and its arguments read as before. No condition. Part 7: Par7 Par8 Par9 ParA ParB ParC. -/
import Derived.Test.YtoepemlnlpamlaaGreatFreeAt06
namespace Go.Proofs.YtoepemlnlpamlaaGreat
set_option maxRecDepth 100000
set_option maxHeartbeats 4000000
open Go.RowKit
theorem nodek_any (E:PE) (hE:E.Ok) (v:PV) (w:World) (hpw:PW w E v) (first:Nat) (kind:Int) (t:Bytes) (lo:Nat) (A:Option Addr) (n c:Nat) (ts:List Tree) (hk:KidsOwn w lo (.slice A n c) n ts) :
 Calls Tryz.prog 71 #[.pointer (some ⟨E.gp,0,none⟩),.int .i64 (first:Int),.int .i64 kind,.string (mkS t),.slice A n c] w fun e w'=>e = .returned (.agg #[.int .i64 kind,.string (mkS t),.int .i64 (nodeAt E.l v.st first ts),.int .i64 (v.st.last:Int),.slice A n c])∧Below w.heap.size w w'∧TreeOwn w' (fun g=>lo≤g) (nodeM E.l v.st first kind t ts) [.int .i64 kind,.string (mkS t),.int .i64 (nodeAt E.l v.st first ts),.int .i64 (v.st.last:Int),.slice A n c]:=by
 refine(node_any E hE v w hpw first kind t lo A n c ts hk).mono ?_;rintro e w' ⟨rfl,hb⟩;exact⟨rfl,hb,(hk.keeps (KeepsN.of_below hb)).node _ _ _ _⟩
theorem kids_lit {w:World} {lo:Nat} {ts:List Tree} {vals:List (List Value)} (h:TreesOwn w (fun g=>lo≤g) ts vals) (hlo:lo≤w.heap.size) (hm:ts.length≤1000) :
 KidsOwn (w.alloc (.cells (List.flatten vals).toArray 24)) lo (.slice (some ⟨w.heap.size,0,none⟩) ts.length ts.length) ts.length ts:=by
 have hl:=(TreesOwn.lens h).2;refine⟨vals,?_,?_,rfl⟩
 ·have:=OwnS.block (base:=lo) (e:=24) (size:=5) (n:=ts.length) hlo (Blk.new w 24 (List.flatten vals).toArray) (by simp only[maxLen];omega) (by simpa using hl)
  simpa using this
 ·refine TreesOwn.keeps (w:=w) (fun g _ _ hc=>Below.heap_alloc w _ g (Array.getElem?_eq_some_iff.1 hc).1) _ _ (TreesOwn.weak (fun g hg hP=>⟨hP,fun e1=>?_⟩) _ _ h)
  have:g=w.heap.size:=by simpa [Value.ownBlock] using e1
  omega
theorem kids_lit1 {w:World} {lo:Nat} {t:Tree} {a b c d e:Value} (h:TreeOwn w (fun g=>lo≤g) t [a,b,c,d,e]) (hlo:lo≤w.heap.size) :
 KidsOwn (w.alloc (.cells #[a,b,c,d,e] 24)) lo (.slice (some ⟨w.heap.size,0,none⟩) 1 1) 1 [t] :=
 kids_lit (ts:=[t]) (vals:=[[a,b,c,d,e]]) ⟨_,_,rfl,h,rfl⟩ hlo (by simp)
theorem parameter_any (E:PE) (hE:E.Ok) (v:PV) (w:World) (hpw:PW w E v):Calls Tryz.prog 181 #[.pointer (some ⟨E.gp,0,none⟩)] w (TreeRes E w v (paramM E.bs E.l v.st)):=by
 have hgl:=hpw.blk.lt;have hk2:w.cell? ⟨E.gp,2,none⟩=some (.int .i64 (v.st.k:Int)):=hpw.blk.cell 2
 go_enter Tryz.func181,Tryz.ntmps181
 go_wp2_with fail
 generalize hW1:w.alloc (.cells #[.int .i64 0,.string ⟨#[]⟩,.int .i64 0,.int .i64 0,.slice none 0 0] 24)=W1
 have hb1:Below w.heap.size w W1:=by rw[← hW1];exact below_alloc _ _
 have hR1:Blk W1 w.heap.size 24 #[.int .i64 0,.string ⟨#[]⟩,.int .i64 0,.int .i64 0,.slice none 0 0]:=by rw[← hW1];exact Blk.new w _ _
 have hs1:W1.heap.size=w.heap.size+1:=by rw[← hW1];simp
 have hm1:=PM.of_below (E:=E) (v:=v) hb1;have h1:=hpw.below hb1;have P1:=hm1;have HS1:=kH hs1;have HM1:=kH hm1;clear hW1 hs1 hm1 hb1
 obtain⟨bv,hbv⟩:∃ x,isM E.bs E.l v.st [118,97,114] = x:=⟨_,rfl⟩
 have HBV:=kH hbv;clear hbv;refine(accept_any E hE v [118,97,114] _ h1).mono ?_;rintro e w2 ⟨rfl,v2,hv2,h2,hm2⟩;rw[HBV.out];have HV2:=kH hv2;have hR2:=hm2.blk h1 hR1;have P2:=P1.trans hm2;clear hv2 hm2
 cases bv
 ·have HRES:Hid (paramM E.bs E.l v.st=(nodeM E.l (optM E.bs E.l (nameP E.l (acceptM E.bs E.l v.st [118,97,114]))).2 v.st.k 7 (nameT E.bs E.l (acceptM E.bs E.l v.st [118,97,114])) [(optM E.bs E.l (nameP E.l (acceptM E.bs E.l v.st [118,97,114]))).1],(optM E.bs E.l (nameP E.l (acceptM E.bs E.l v.st [118,97,114]))).2)):=kH (by unfold paramM;rw[HBV.out];rfl)
  go_wp2_with fail
  refine(name_any E hE v2 _ h2).mono ?_;rintro e w3 ⟨rfl,v3,hv3,h3,hm3⟩;have HV3:=kH hv3;have hR3:=hm3.blk h2 hR2;have P3:=P2.trans hm3;clear hv3 hm3
  have hnt:nameT E.bs E.l v2.st=nameT E.bs E.l (acceptM E.bs E.l v.st [118,97,114]):=by rw[HV2.out]
  rw[hnt];rw[HV2.out]at HV3;clear hnt
  go_wp2_with fail
  refine(optional_any E hE v3 _ h3).mono ?_;rintro e w4 ⟨k4,t4,a4,z4,A4,n4,c4,rfl,hT4,v4,hv4,h4,hm4⟩;have HV4:=kH hv4;have hR4:=hm4.blk h3 hR3;have P4:=P3.trans hm4
  replace hT4:=TreeOwn.weak (Q:=fun g=>w.heap.size+1≤g) (fun g _ hg=>Nat.le_trans hR3.lt hg) _ _ hT4
  clear hv4;rw[HV3.out]at HV4 hT4
  go_wp2_with fail
  generalize hW5:w4.alloc (.cells #[.int .i64 k4,.string t4,.int .i64 a4,.int .i64 z4,.slice A4 n4 c4] 24)=w5
  have hb5:Below w4.heap.size w4 w5:=by rw[← hW5];exact below_alloc _ _
  have hs5:w5.heap.size=w4.heap.size+1:=by rw[← hW5];simp
  have hX5:Blk w5 w4.heap.size 24 #[.int .i64 k4,.string t4,.int .i64 a4,.int .i64 z4,.slice A4 n4 c4]:=by rw[← hW5];exact Blk.new w4 _ _
  have hT5:=TreeOwn.keeps (KeepsN.of_below hb5) _ _ hT4;have h5:=h4.below hb5;have hR5:=hR4.below hb5 hR4.lt;have P5:=P4.trans (PM.of_below hb5);clear hW5;have HK6:=kH (kids_lit1 hT5 (by have:=hR5.lt;omega))
  generalize hW6:w5.alloc (.cells #[.int .i64 k4,.string t4,.int .i64 a4,.int .i64 z4,.slice A4 n4 c4] 24)=w6 at HK6 ⊢
  have hb6:Below w5.heap.size w5 w6:=by rw[← hW6];exact below_alloc _ _
  have h6:=h5.below hb6;have hR6:=hR5.below hb6 hR5.lt;have P6:=P5.trans (PM.of_below hb6);clear hW6
  obtain⟨v6,hv6⟩:∃ v6,v6=v4:=⟨_,rfl⟩
  rw[← hv6]at h6 P6 HV4;have HV6:=HV4;rw[← hs5];clear hv6 hX5 hs5;refine(nodek_any E hE v6 _ h6 v.st.k 7 (nameT E.bs E.l (acceptM E.bs E.l v.st [118,97,114])) (w.heap.size+1) (some ⟨w5.heap.size,0,none⟩) 1 1 [(optM E.bs E.l (nameP E.l (acceptM E.bs E.l v.st [118,97,114]))).1] HK6.out).mono ?_;rintro e w7 ⟨rfl,hb7,hT7⟩;have h7:=h6.below hb7;have hR7:=hR6.below hb7 hR6.lt;obtain⟨⟨r0,r1,r2,r3,r4⟩,g0,g1,g2,g3,g4⟩:=hR7.five
  go_wp2_with fail
  have HEND:=kH (tree_end (v:=v) h7 (P6.trans (PM.of_below hb7)) rfl hR7 hgl hT7);clear hT7;refine bodyPost_ret (v:=.agg #[.int .i64 7,.string (mkS (nameT E.bs E.l (acceptM E.bs E.l v.st [118,97,114]))),.int .i64 (nodeAt E.l v6.st v.st.k [(optM E.bs E.l (nameP E.l (acceptM E.bs E.l v.st [118,97,114]))).1]),.int .i64 (v6.st.last:Int),.slice (some ⟨w5.heap.size,0,none⟩) 1 1]) (by simp[results,Tryz.results181,go_sem,r0,r1,r2,r3,r4]) rfl ?_;exact Eq.mp (congrArg (fun r=>TreeRes E w v r _ _) (show (nodeM E.l v6.st v.st.k 7 (nameT E.bs E.l (acceptM E.bs E.l v.st [118,97,114])) [(optM E.bs E.l (nameP E.l (acceptM E.bs E.l v.st [118,97,114]))).1],v6.st)=_ by rw[HRES.out,HV6.out])) HEND.out
 ·have HRES:Hid (paramM E.bs E.l v.st=(nodeM E.l (optM E.bs E.l (nameP E.l (acceptM E.bs E.l v.st [118,97,114]))).2 v.st.k 8 (nameT E.bs E.l (acceptM E.bs E.l v.st [118,97,114])) [(optM E.bs E.l (nameP E.l (acceptM E.bs E.l v.st [118,97,114]))).1],(optM E.bs E.l (nameP E.l (acceptM E.bs E.l v.st [118,97,114]))).2)):=kH (by unfold paramM;rw[HBV.out];rfl)
  go_wp2_with fail
  refine(name_any E hE v2 _ h2).mono ?_;rintro e w3 ⟨rfl,v3,hv3,h3,hm3⟩;have HV3:=kH hv3;have hR3:=hm3.blk h2 hR2;have P3:=P2.trans hm3;clear hv3 hm3
  have hnt:nameT E.bs E.l v2.st=nameT E.bs E.l (acceptM E.bs E.l v.st [118,97,114]):=by rw[HV2.out]
  rw[hnt];rw[HV2.out]at HV3;clear hnt
  go_wp2_with fail
  refine(optional_any E hE v3 _ h3).mono ?_;rintro e w4 ⟨k4,t4,a4,z4,A4,n4,c4,rfl,hT4,v4,hv4,h4,hm4⟩;have HV4:=kH hv4;have hR4:=hm4.blk h3 hR3;have P4:=P3.trans hm4
  replace hT4:=TreeOwn.weak (Q:=fun g=>w.heap.size+1≤g) (fun g _ hg=>Nat.le_trans hR3.lt hg) _ _ hT4
  clear hv4;rw[HV3.out]at HV4 hT4
  go_wp2_with fail
  generalize hW5:w4.alloc (.cells #[.int .i64 k4,.string t4,.int .i64 a4,.int .i64 z4,.slice A4 n4 c4] 24)=w5
  have hb5:Below w4.heap.size w4 w5:=by rw[← hW5];exact below_alloc _ _
  have hs5:w5.heap.size=w4.heap.size+1:=by rw[← hW5];simp
  have hX5:Blk w5 w4.heap.size 24 #[.int .i64 k4,.string t4,.int .i64 a4,.int .i64 z4,.slice A4 n4 c4]:=by rw[← hW5];exact Blk.new w4 _ _
  have hT5:=TreeOwn.keeps (KeepsN.of_below hb5) _ _ hT4;have h5:=h4.below hb5;have hR5:=hR4.below hb5 hR4.lt;have P5:=P4.trans (PM.of_below hb5);clear hW5;have HK6:=kH (kids_lit1 hT5 (by have:=hR5.lt;omega))
  generalize hW6:w5.alloc (.cells #[.int .i64 k4,.string t4,.int .i64 a4,.int .i64 z4,.slice A4 n4 c4] 24)=w6 at HK6 ⊢
  have hb6:Below w5.heap.size w5 w6:=by rw[← hW6];exact below_alloc _ _
  have h6:=h5.below hb6;have hR6:=hR5.below hb6 hR5.lt;have P6:=P5.trans (PM.of_below hb6);clear hW6
  obtain⟨v6,hv6⟩:∃ v6,v6=v4:=⟨_,rfl⟩
  rw[← hv6]at h6 P6 HV4;have HV6:=HV4;rw[← hs5];clear hv6 hX5 hs5;refine(nodek_any E hE v6 _ h6 v.st.k 8 (nameT E.bs E.l (acceptM E.bs E.l v.st [118,97,114])) (w.heap.size+1) (some ⟨w5.heap.size,0,none⟩) 1 1 [(optM E.bs E.l (nameP E.l (acceptM E.bs E.l v.st [118,97,114]))).1] HK6.out).mono ?_;rintro e w7 ⟨rfl,hb7,hT7⟩;have h7:=h6.below hb7;have hR7:=hR6.below hb7 hR6.lt;obtain⟨⟨r0,r1,r2,r3,r4⟩,g0,g1,g2,g3,g4⟩:=hR7.five
  go_wp2_with fail
  have HEND:=kH (tree_end (v:=v) h7 (P6.trans (PM.of_below hb7)) rfl hR7 hgl hT7);clear hT7;refine bodyPost_ret (v:=.agg #[.int .i64 8,.string (mkS (nameT E.bs E.l (acceptM E.bs E.l v.st [118,97,114]))),.int .i64 (nodeAt E.l v6.st v.st.k [(optM E.bs E.l (nameP E.l (acceptM E.bs E.l v.st [118,97,114]))).1]),.int .i64 (v6.st.last:Int),.slice (some ⟨w5.heap.size,0,none⟩) 1 1]) (by simp[results,Tryz.results181,go_sem,r0,r1,r2,r3,r4]) rfl ?_;exact Eq.mp (congrArg (fun r=>TreeRes E w v r _ _) (show (nodeM E.l v6.st v.st.k 8 (nameT E.bs E.l (acceptM E.bs E.l v.st [118,97,114])) [(optM E.bs E.l (nameP E.l (acceptM E.bs E.l v.st [118,97,114]))).1],v6.st)=_ by rw[HRES.out,HV6.out])) HEND.out
end Go.Proofs.YtoepemlnlpamlaaGreat
namespace Go.Proofs.YtoepemlnlpamlaaGreat
set_option maxRecDepth 100000
set_option maxHeartbeats 4000000
open Go.RowKit
theorem stops_any (E:PE) (hE:E.Ok) (v:PV) (w:World) (hpw:PW w E v) :
 Calls Tryz.prog 183 #[.pointer (some ⟨E.gp,0,none⟩)] w fun e w'=>e = .returned (.bool (stopsM E.bs E.l v.st))∧Below w.heap.size w w':=by
 have hkd:=kind_any E hE v w hpw
 have his:=fun x w' (h:PW w' E v)=>is_any E hE v x w' h
 obtain⟨k,hk⟩:∃ x,kindM E.l v.st=x:=⟨_,rfl⟩
 rw[hk]at hkd
 obtain⟨b1,hb1⟩:∃ x,isM E.bs E.l v.st [125] = x:=⟨_,rfl⟩
 obtain⟨b2,hb2⟩:∃ x,isM E.bs E.l v.st [112,114,111,99] = x:=⟨_,rfl⟩
 obtain⟨b3,hb3⟩:∃ x,isM E.bs E.l v.st [114,101,99,111,114,100] = x:=⟨_,rfl⟩
 have hres:stopsM E.bs E.l v.st=(decide (k=5) || b1 || b2 || b3):=by unfold stopsM;rw[hk,hb1,hb2,hb3]
 rw[hres];have HKD:=kH hkd;have HIS:=kH his;have HB1:=kH hb1;have HB2:=kH hb2;have HB3:=kH hb3;clear hres hk hkd his hb1 hb2 hb3
 by_cases h5:k=5
 ·subst h5
  go_enter Tryz.func183,Tryz.ntmps183
  go_wp2_with fail
  refine HKD.out.mono ?_;rintro e w1 ⟨rfl,hb⟩
  go_wp2_with fail
  go_ret
  exact⟨rfl,hb⟩
 ·have hki:((k:Int) == 5)=false:=by simp;omega
  have hkd5:decide (k=5)=false:=decide_eq_false h5;rw[hkd5];clear h5 hkd5
  go_enter Tryz.func183,Tryz.ntmps183
  go_wp2_with fail
  refine HKD.out.mono ?_;rintro e w1 ⟨rfl,hb⟩;have h1:=hpw.below hb
  go_wp2_with fail
  refine(HIS.out [125] w1 h1).mono ?_;rintro e w2 ⟨rfl,hb2⟩;rw[HB1.out];have hb02:=hb.trans (hb2.mono hb.size);have h2:=h1.below hb2;clear hb hb2
  cases b1
  ·go_wp2_with fail
   refine(HIS.out [112,114,111,99] w2 h2).mono ?_;rintro e w3 ⟨rfl,hb3⟩;rw[HB2.out];have hb03:=hb02.trans (hb3.mono hb02.size);have h3:=h2.below hb3;clear hb02 hb3
   cases b2
   ·go_wp2_with fail
    refine(HIS.out [114,101,99,111,114,100] w3 h3).mono ?_;rintro e w4 ⟨rfl,hb4⟩;rw[HB3.out]
    go_wp2_with fail
    go_ret
    exact⟨ret_bool' (by simp),hb03.trans (hb4.mono hb03.size)⟩
   ·go_wp2_with fail
    go_ret
    exact⟨rfl,hb03⟩
  ·go_wp2_with fail
   go_ret
   exact⟨rfl,hb02⟩
end Go.Proofs.YtoepemlnlpamlaaGreat
namespace Go.Proofs.YtoepemlnlpamlaaGreat
set_option maxRecDepth 100000
set_option maxHeartbeats 4000000
open Go.RowKit
def StrsRes (w:World) (l:List Bytes) (e:Ending) (w':World):Prop :=
 ∃ A n c,e = .returned (.slice A n c)∧l.length=n∧RowAt 1 strCells w' w'.heap.size A (l.map mkS)∧Below w.heap.size w w'
theorem strs_res (w:World) (l:List Bytes):StrsRes w l (.returned (.slice (some ⟨w.heap.size,0,none⟩) l.length l.length)) (w.alloc (.cells (l.map fun b=>Value.string (mkS b)).toArray 9)) :=
 ⟨_,_,_,rfl,rfl,strs_row w 9 l,below_alloc _ _⟩
theorem Operators_any (lv:Nat) (w:World) (h:lv≤7):Calls Tryz.prog 232 #[.int .i64 (lv:Int)] w (StrsRes w (opsM lv)):=by
 have hnil:StrsRes w [] (.returned (.slice none 0 0)) w:=⟨none,0,0,rfl,rfl,fun k c hk=>by simp at hk,Below.refl _ _⟩
 match lv,h with
 | 0,_ =>
  go_enter Tryz.func232,Tryz.ntmps232
  go_wp2_with fail
  go_ret
  exact hnil
 | 1,_ =>
  go_enter Tryz.func232,Tryz.ntmps232
  go_wp2_with fail
  go_ret
  exact strs_res w (opsM 1)
 | 2,_ =>
  go_enter Tryz.func232,Tryz.ntmps232
  go_wp2_with fail
  go_ret
  exact strs_res w (opsM 2)
 | 3,_ =>
  go_enter Tryz.func232,Tryz.ntmps232
  go_wp2_with fail
  go_ret
  exact hnil
 | 4,_ =>
  go_enter Tryz.func232,Tryz.ntmps232
  go_wp2_with fail
  go_ret
  exact strs_res w (opsM 4)
 | 5,_ =>
  go_enter Tryz.func232,Tryz.ntmps232
  go_wp2_with fail
  go_ret
  exact strs_res w (opsM 5)
 | 6,_ =>
  go_enter Tryz.func232,Tryz.ntmps232
  go_wp2_with fail
  go_ret
  exact strs_res w (opsM 6)
 | 7,_ =>
  go_enter Tryz.func232,Tryz.ntmps232
  go_wp2_with fail
  go_ret
  exact hnil
 | n+8,h=>exact absurd h (by omega)
theorem ops_len (lv:Nat):(opsM lv).length≤6:=by
 unfold opsM
 repeat (split;· decide)
 decide
theorem hasB_word (ws:List Bytes) (x:Bytes):hasA (ws.map mkS) (mkS x)=hasB ws x:=hasA_mk ws (mkS x)
theorem operator_any (E:PE) (hE:E.Ok) (v:PV) (lv:Nat) (w:World) (hpw:PW w E v) (hlv:lv≤7) :
 Calls Tryz.prog 186 #[.pointer (some ⟨E.gp,0,none⟩),.int .i64 (lv:Int)] w fun e w'=>e = .returned (.bool (operM E.bs E.l v.st lv))∧Below w.heap.size w w':=by
 have hkd:=kind_any E hE v w hpw
 obtain⟨k,hk⟩:∃ x,kindM E.l v.st=x:=⟨_,rfl⟩
 rw[hk]at hkd
 obtain⟨b1,hb1⟩:∃ x,hasB (opsM lv) (wordM E.bs E.l v.st.k)=x:=⟨_,rfl⟩
 have hres:operM E.bs E.l v.st lv=(decide (k≠5) && b1):=by unfold operM;rw[hk,hb1]
 rw[hres]
 have hop:=fun w=>Operators_any lv w hlv
 have HOP:=kH hop;have HKD:=kH hkd;have HB1:=kH hb1;clear hres hk hkd hb1 hop
 by_cases h5:k=5
 ·subst h5
  go_enter Tryz.func186,Tryz.ntmps186
  go_wp2_with fail
  refine HKD.out.mono ?_;rintro e w1 ⟨rfl,hb⟩
  go_wp2_with fail
  go_ret
  exact⟨rfl,hb⟩
 ·have hki:((k:Int) != 5)=true:=by simp;omega
  have hkd5:decide (k≠5)=true:=decide_eq_true h5;rw[hkd5];clear h5 hkd5
  go_enter Tryz.func186,Tryz.ntmps186
  go_wp2_with fail
  refine HKD.out.mono ?_;rintro e w1 ⟨rfl,hb⟩;have h1:=hpw.below hb
  go_wp2_with fail
  refine(HOP.out w1).mono ?_;rintro e w2 ⟨A,n,c,rfl,hn,hr,hb2⟩;have hb02:=hb.trans (hb2.mono hb.size);have h2:=h1.below hb2;have HN:=kH hn;have HR:=kH hr;clear hb hb2 hn hr
  go_wp2_with fail
  refine(next_any E hE v w2 h2).mono ?_;rintro e w3 ⟨rfl,hb3⟩;have hr3:=(HR.out.below hb3 (Nat.le_refl _)).mono hb3.size;have HR3:=kH hr3;have hb03:=hb02.trans (hb3.mono hb02.size);clear hb02 hb3 hr3
  go_wp2_with fail
  refine(Has_any A n c ((opsM lv).map mkS) (mkS (wordM E.bs E.l v.st.k)) w3 HR3.out (by rw[List.length_map];exact HN.out) (by have:=ops_len lv;rw[← HN.out];omega)).mono ?_;rintro e w4 ⟨rfl,hb4⟩;rw[hasB_word,HB1.out]
  go_wp2_with fail
  go_ret
  exact⟨ret_bool' (by simp),hb03.trans (hb4.mono hb03.size)⟩
theorem begins4_any (E:PE) (hE:E.Ok) (v:PV) (w:World) (hpw:PW w E v) :
 Calls Tryz.prog 188 #[.pointer (some ⟨E.gp,0,none⟩)] w fun e w'=>e = .returned (.bool (beginsP E.bs E.l v.st))∧Below w.heap.size w w':=by
 have hkd:=kind_any E hE v w hpw
 obtain⟨k,hk⟩:∃ x,kindM E.l v.st=x:=⟨_,rfl⟩
 rw[hk]at hkd
 obtain⟨b1,hb1⟩:∃ x,hasB beginsW (wordM E.bs E.l v.st.k)=x:=⟨_,rfl⟩
 have hres:beginsP E.bs E.l v.st=(decide (k=1) && b1):=by unfold beginsP;rw[hk,hb1]
 rw[hres];have HKD:=kH hkd;have HB1:=kH hb1;clear hres hk hkd hb1
 have hal:∀ w:World,Below w.heap.size w (w.alloc (.cells (beginsW.map fun b=>Value.string (mkS b)).toArray 9)):=fun w=>below_alloc _ _
 have HAL:=kH hal;clear hal
 by_cases h1:k=1
 ·subst h1
  go_enter Tryz.func188,Tryz.ntmps188
  go_wp2_with fail
  refine HKD.out.mono ?_;rintro e w1 ⟨rfl,hb⟩;have h1:=hpw.below hb;have h2:=h1.below (HAL.out w1);have hr:=strs_row w1 9 beginsW;have HR:=kH hr;have H2:=kH h2;have hbn:=hb.trans ((HAL.out w1).mono hb.size);have HBN:=kH hbn;clear hr h2 hbn
  go_wp2_with fail
  refine(next_any E hE v _ H2.out).mono ?_;rintro e w3 ⟨rfl,hb3⟩;have hr3:=(HR.out.below hb3 (Nat.le_refl _)).mono hb3.size;have HR3:=kH hr3;have hb03:=HBN.out.trans (hb3.mono HBN.out.size);have HB03:=kH hb03;clear hb03 hr3 hb3
  go_wp2_with fail
  refine(Has_any (some ⟨w1.heap.size,0,none⟩) 6 6 (beginsW.map mkS) (mkS (wordM E.bs E.l v.st.k)) w3 HR3.out rfl (by omega)).mono ?_;rintro e w4 ⟨rfl,hb4⟩;rw[hasB_word,HB1.out]
  go_wp2_with fail
  go_ret
  exact⟨ret_bool' (by simp),HB03.out.trans (hb4.mono HB03.out.size)⟩
 ·have hki:((k:Int) == 1)=false:=by simp;omega
  have hkd1:decide (k=1)=false:=decide_eq_false h1;rw[hkd1];clear h1 hkd1
  go_enter Tryz.func188,Tryz.ntmps188
  go_wp2_with fail
  refine HKD.out.mono ?_;rintro e w1 ⟨rfl,hb⟩
  go_wp2_with fail
  go_ret
  exact⟨rfl,hb⟩
theorem primary_any (E:PE) (hE:E.Ok) (v:PV) (w:World) (hpw:PW w E v) :
 Calls Tryz.prog 136 #[.pointer (some ⟨E.gp,0,none⟩)] w fun e w'=>e = .returned (.bool (primM E.bs E.l v.st))∧Below w.heap.size w w':=by
 have hkd:=fun w' (h:PW w' E v)=>kind_any E hE v w' h
 have his:=fun x w' (h:PW w' E v)=>is_any E hE v x w' h
 obtain⟨k,hk⟩:∃ x,kindM E.l v.st=x:=⟨_,rfl⟩
 rw[hk]at hkd
 obtain⟨b1,hb1⟩:∃ x,isM E.bs E.l v.st [116,114,117,101] = x:=⟨_,rfl⟩
 obtain⟨b2,hb2⟩:∃ x,isM E.bs E.l v.st [102,97,108,115,101] = x:=⟨_,rfl⟩
 obtain⟨b3,hb3⟩:∃ x,isM E.bs E.l v.st [108,101,110] = x:=⟨_,rfl⟩
 obtain⟨b4,hb4⟩:∃ x,isM E.bs E.l v.st [40] = x:=⟨_,rfl⟩
 obtain⟨b5,hb5⟩:∃ x,isM E.bs E.l v.st [91] = x:=⟨_,rfl⟩
 have hres:primM E.bs E.l v.st=(decide (k=0) || decide (k=2) || b1 || b2 || b3 || b4 || b5):=by unfold primM;rw[hk,hb1,hb2,hb3,hb4,hb5]
 rw[hres];have HKD:=kH hkd;have HIS:=kH his;have HB1:=kH hb1;have HB2:=kH hb2;have HB3:=kH hb3;have HB4:=kH hb4;have HB5:=kH hb5;clear hres hk hkd his hb1 hb2 hb3 hb4 hb5
 by_cases h0:k=0
 ·subst h0
  go_enter Tryz.func136,Tryz.ntmps136
  go_wp2_with fail
  refine(HKD.out w hpw).mono ?_;rintro e w1 ⟨rfl,hb⟩
  go_wp2_with fail
  go_ret
  exact⟨rfl,hb⟩
 have hk0:((k:Int) == 0)=false:=by simp;omega
 have hd0:decide (k=0)=false:=decide_eq_false h0;rw[hd0];clear h0 hd0
 go_enter Tryz.func136,Tryz.ntmps136
 go_wp2_with fail
 refine(HKD.out w hpw).mono ?_;rintro e w1 ⟨rfl,hb⟩;have h1:=hpw.below hb
 go_wp2_with fail
 refine(HKD.out w1 h1).mono ?_;rintro e w2 ⟨rfl,hbb⟩;have h2:=h1.below hbb;have c2:=hb.trans (hbb.mono hb.size);clear hb hbb
 by_cases h22:k=2
 ·subst h22
  go_wp2_with fail
  go_ret
  exact⟨rfl,c2⟩
 have hk2:((k:Int) == 2)=false:=by simp;omega
 have HD2:Hid (decide (k=2)=false):=kH (decide_eq_false h22);clear h22
 go_wp2_with fail
 refine(HIS.out [116,114,117,101] w2 h2).mono ?_;rintro e w3 ⟨rfl,hbb⟩;rw[HB1.out];have h3:=h2.below hbb;have c3:=c2.trans (hbb.mono c2.size);clear hbb
 cases b1
 case true =>
  go_wp2_with fail
  go_ret
  exact⟨ret_bool' (by simp),c3⟩
 go_wp2_with fail
 refine(HIS.out [102,97,108,115,101] w3 h3).mono ?_;rintro e w4 ⟨rfl,hbb⟩;rw[HB2.out];have h4:=h3.below hbb;have c4:=c3.trans (hbb.mono c3.size);clear hbb
 cases b2
 case true =>
  go_wp2_with fail
  go_ret
  exact⟨ret_bool' (by simp),c4⟩
 go_wp2_with fail
 refine(HIS.out [108,101,110] w4 h4).mono ?_;rintro e w5 ⟨rfl,hbb⟩;rw[HB3.out];have h5:=h4.below hbb;have c5:=c4.trans (hbb.mono c4.size);clear hbb
 cases b3
 case true =>
  go_wp2_with fail
  go_ret
  exact⟨ret_bool' (by simp),c5⟩
 go_wp2_with fail
 refine(HIS.out [40] w5 h5).mono ?_;rintro e w6 ⟨rfl,hbb⟩;rw[HB4.out];have h6:=h5.below hbb;have c6:=c5.trans (hbb.mono c5.size);clear hbb
 cases b4
 case true =>
  go_wp2_with fail
  go_ret
  exact⟨ret_bool' (by simp),c6⟩
 go_wp2_with fail
 refine(HIS.out [91] w6 h6).mono ?_;rintro e w7 ⟨rfl,hbb⟩;rw[HB5.out];have h7:=h6.below hbb;have c7:=c6.trans (hbb.mono c6.size);clear hbb
 go_wp2_with fail
 go_ret
 exact⟨ret_bool' (by rw[HD2.out];simp),c7⟩
end Go.Proofs.YtoepemlnlpamlaaGreat
namespace Go.Proofs.YtoepemlnlpamlaaGreat
set_option maxRecDepth 100000
set_option maxHeartbeats 4000000
open Go.RowKit
theorem skipped_any (E:PE) (hE:E.Ok) (v:PV) (w:World) (hpw:PW w E v) (f:Nat) (r:Tree × PS) (hr:skippedM E.bs E.l f v.st=some r):Calls Tryz.prog 140 #[.pointer (some ⟨E.gp,0,none⟩)] w (TreeRes E w v r):=by
 obtain⟨q,hq,hrq⟩:∃ q,skipL E.bs E.l v.st.k f (repM E.l v.st 6 [])=some q∧r=(nodeM E.l q v.st.k 1 [] [],q):=by
  unfold skippedM at hr;split at hr
  ·cases hr
  ·rename_i q h
   cases hr
   exact⟨q,h,rfl⟩
 have HQ:=kH hq;have HRES:=kH hrq;clear hr hq hrq;have hgl:=hpw.blk.lt;have hk2:w.cell? ⟨E.gp,2,none⟩=some (.int .i64 (v.st.k:Int)):=hpw.blk.cell 2
 obtain⟨first,hfirst⟩:∃ x,v.st.k=x:=⟨_,rfl⟩
 rw[hfirst]at hk2;have HF:=kH hfirst;clear hfirst
 go_enter Tryz.func140,Tryz.ntmps140
 go_wp2_with fail
 generalize hW1:w.alloc (.cells #[.int .i64 0,.string ⟨#[]⟩,.int .i64 0,.int .i64 0,.slice none 0 0] 24)=W1
 have hb1:Below w.heap.size w W1:=by rw[← hW1];exact below_alloc _ _
 have hR1:Blk W1 w.heap.size 24 #[.int .i64 0,.string ⟨#[]⟩,.int .i64 0,.int .i64 0,.slice none 0 0]:=by rw[← hW1];exact Blk.new w _ _
 have hs1:W1.heap.size=w.heap.size+1:=by rw[← hW1];simp
 have hm1:=PM.of_below (E:=E) (v:=v) hb1;have h1:=hpw.below hb1;have P1:=hm1;have HS1:=kH hs1;have HM1:=kH hm1;clear hW1 hs1 hm1 hb1;refine(report_any E hE v 6 [] _ h1).mono ?_;rintro e w2 ⟨⟨u2,rfl⟩,v2,hv2,h2,hm2⟩;have HV2:=kH hv2;have hR2:=hm2.blk h1 hR1;have P2:=P1.trans hm2;clear hv2 hm2
 go_wp2_with fail
 go_loopg [] f (fun gk wr => ∃ vx,skipL E.bs E.l first gk vx.st=some q∧PW wr E vx∧PM E w v wr vx∧Blk wr w.heap.size 24 #[.int .i64 0,.string ⟨#[]⟩,.int .i64 0,.int .i64 0,.slice none 0 0])
 case atStart=>exact⟨v2,by rw[HV2.out,← HF.out];exact HQ.out,h2,P2,hR2⟩
 case round =>
  obtain⟨vx,hx,hpx,hmx,hRx⟩:=hrel
  cases gk with
  | zero=>simp[skipL]at hx
  | succ gk =>
   rw[skipL]at hx
   have hst:=fun w' (h:PW w' E vx)=>stops_any E hE vx w' h
   have hbg:=fun w' (h:PW w' E vx)=>begins4_any E hE vx w' h
   obtain⟨b1,hb1⟩:∃ x,stopsM E.bs E.l vx.st=x:=⟨_,rfl⟩
   obtain⟨b2,hb2⟩:∃ x,beginsP E.bs E.l vx.st=x:=⟨_,rfl⟩
   rw[hb1]at hst;rw[hb2]at hbg;have HB1:=kH hb1;rw[hb1,hb2]at hx;have HST:=kH hst;have HBG:=kH hbg;have HX:=kH hx;clear hx hst hbg hb1 hb2
   cases b1
   ·have hk5:kindM E.l vx.st≠5:=by
     intro h5;have:=HB1.out;unfold stopsM at this;rw[h5]at this;simp at this
    obtain⟨bg,hbg⟩:∃ x,(decide (vx.st.k=first) || !b2)=x:=⟨_,rfl⟩
    have hx2:=HX.out;rw[hbg]at hx2;have hkc:=hpx.blk.cell 2;simp at hkc
    obtain⟨kx,hkx⟩:∃ x,vx.st.k=x:=⟨_,rfl⟩
    rw[hkx]at hbg hkc;have HX2:=kH hx2;have HG:=kH hbg;have HKX:=kH hkx;have HK5:=kH hk5;have hgx:=hpx.blk.lt;clear hx2 hbg hkx HX hk5;have HPX:=kH hpx
    go_upto_region 3 with fail
    go_cut [25] (fun s25 wx=>s25 = .bool bg∧Below wr.heap.size wr wx)
    case first =>
     by_cases hkf:kx=first
     ·have e:bg=true:=by rw[← HG.out];simp[hkf]
      subst e
      have hki:((kx:Int) ==(first:Int))=true:=by simp[hkf]
      have hkn:(kx == first)=true:=by simp[hkf]
      clear hkf
      go_wp2_with fail
      refine(HST.out _ hpx).mono ?_;rintro e w4 ⟨rfl,hb4⟩;have hkc4:w4.cell? ⟨E.gp,2,none⟩=some (.int .i64 (kx:Int)):=(hb4.cell (p:=⟨E.gp,2,none⟩) hgx).trans hkc;clear hkc
      go_wp2_with fail
      go_meet
      exact⟨rfl,hb4⟩
     ·have e:bg = !b2:=by rw[← HG.out];simp[hkf]
      subst e
      have hki:((kx:Int) ==(first:Int))=false:=by simp;omega
      have hkn:(kx == first)=false:=by simp[hkf]
      clear hkf
      go_wp2_with fail
      refine(HST.out _ hpx).mono ?_;rintro e w4 ⟨rfl,hb4⟩;have hkc4:w4.cell? ⟨E.gp,2,none⟩=some (.int .i64 (kx:Int)):=(hb4.cell (p:=⟨E.gp,2,none⟩) hgx).trans hkc;have h4:=HPX.out.below hb4;clear hkc
      go_wp2_with fail
      refine(HBG.out _ h4).mono ?_;rintro e w5 ⟨rfl,hb5⟩
      go_wp2_with fail
      go_meet
      exact⟨rfl,hb4.trans (hb5.mono hb4.size)⟩
    case rest =>
     obtain⟨rfl,hbw⟩:=hcut;have h4:=HPX.out.below hbw;have hR4:=hRx.below hbw hRx.lt;have P4:=hmx.trans (PM.of_below hbw)
     cases bg
     ·have hq2:vx.st=q:=by simpa using HX2.out
      obtain⟨v4,hv4⟩:∃ v4,v4=vx:=⟨_,rfl⟩
      rw[← hv4]at h4 P4 hq2;have HV4:=kH hq2
      obtain⟨w4,hw4⟩:∃ w4:World,w4=wc:=⟨_,rfl⟩
      rw[HF.out]at HRES;clear hv4 hq2;subst hw4
      go_wp2_with fail
      refine(leaf_any E hE v4 _ h4 first 1 [] (w.heap.size+1)).mono ?_;rintro e w5 ⟨rfl,hb5,hT5⟩;have h5:=h4.below hb5;have hR5:=hR4.below hb5 hR4.lt;obtain⟨⟨r0,r1,r2,r3,r4⟩,g0,g1,g2,g3,g4⟩:=hR5.five
      go_wp2_with fail
      have HEND:=kH (tree_end (v:=v) h5 (P4.trans (PM.of_below hb5)) rfl hR5 hgl hT5);clear hT5;refine bodyPost_ret (v:=.agg #[.int .i64 1,.string (mkS []),.int .i64 (nodeAt E.l v4.st first []),.int .i64 (v4.st.last:Int),.slice none 0 0]) (by simp[results,Tryz.results140,go_sem,r0,r1,r2,r3,r4]) rfl ?_;exact Eq.mp (congrArg (fun r=>TreeRes E w v r _ _) (show (nodeM E.l v4.st first 1 [] [],v4.st)=_ by rw[HV4.out,HRES.out])) HEND.out
     ·go_wp2_with fail
      refine(read_any E hE vx _ h4 HK5.out).mono ?_;rintro e w6 ⟨rfl,h6,hm6⟩;have hR6:=hm6.blk h4 hR4;have P6:=P4.trans hm6
      by_cases hsc:wordM E.bs E.l vx.st.k = [59]
      ·have hq2:readM E.l vx.st=q:=by
        have:=HX2.out;rw[hsc]at this
        simpa using this
       have hws:mkS (wordM E.bs E.l vx.st.k)=⟨#[59]⟩:=by rw[hsc];rfl
       rw[hws]
       obtain⟨v6,hv6⟩:∃ v6:PV,(⟨readM E.l vx.st,vx.lv⟩:PV)=v6:=⟨_,rfl⟩
       rw[hv6]at h6 P6;have HV6:Hid (v6.st=q):=kH (by rw[← hv6];exact hq2);rw[HF.out]at HRES;clear hv6 hq2 hsc hws hm6
       go_wp2_with fail
       refine(leaf_any E hE v6 _ h6 first 1 [] (w.heap.size+1)).mono ?_;rintro e w7 ⟨rfl,hb7,hT7⟩;have h7:=h6.below hb7;have hR7:=hR6.below hb7 hR6.lt;obtain⟨⟨r0,r1,r2,r3,r4⟩,g0,g1,g2,g3,g4⟩:=hR7.five
       go_wp2_with fail
       have HEND:=kH (tree_end (v:=v) h7 (P6.trans (PM.of_below hb7)) rfl hR7 hgl hT7);clear hT7;refine bodyPost_ret (v:=.agg #[.int .i64 1,.string (mkS []),.int .i64 (nodeAt E.l v6.st first []),.int .i64 (v6.st.last:Int),.slice none 0 0]) (by simp[results,Tryz.results140,go_sem,r0,r1,r2,r3,r4]) rfl ?_;exact Eq.mp (congrArg (fun r=>TreeRes E w v r _ _) (show (nodeM E.l v6.st first 1 [] [],v6.st)=_ by rw[HV6.out,HRES.out])) HEND.out
      ·have hq2:skipL E.bs E.l first gk (readM E.l vx.st)=some q:=by
        have:=HX2.out;rw[if_pos (by simp),if_neg hsc]at this;exact this
       obtain⟨wd,hwd⟩:∃ x,mkS (wordM E.bs E.l vx.st.k)=x:=⟨_,rfl⟩
       have hwf:(wd.data.toList == [59])=false:=by rw[← hwd];simpa [mkS] using hsc
       have hwf2:(wd.toList == [59])=false:=by rw[ByteArray.toList_eq];exact hwf
       rw[hwd];have HQ2:=kH hq2;have HM6:=kH hm6;clear hq2 hsc hwd hm6
       go_wp2_with fail
       go_roundg gk
       case measure=>omega
       case rel=>exact⟨_,HQ2.out,h6,P6,hR6⟩
   ·have hq2:vx.st=q:=by simpa using HX.out
    have HVX:=kH hq2;clear hq2
    go_wp2_with fail
    refine(HST.out _ hpx).mono ?_;rintro e w4 ⟨rfl,hb4⟩;have h4:=hpx.below hb4;have hR4:=hRx.below hb4 hRx.lt;have P4:=hmx.trans (PM.of_below hb4)
    go_wp2_with fail
    obtain⟨v4,hv4⟩:∃ v4,v4=vx:=⟨_,rfl⟩
    rw[← hv4]at h4 P4 HVX;have HV4:=HVX;rw[HF.out]at HRES;clear hv4;refine(leaf_any E hE v4 _ h4 first 1 [] (w.heap.size+1)).mono ?_;rintro e w5 ⟨rfl,hb5,hT5⟩;have h5:=h4.below hb5;have hR5:=hR4.below hb5 hR4.lt;obtain⟨⟨r0,r1,r2,r3,r4⟩,g0,g1,g2,g3,g4⟩:=hR5.five
    go_wp2_with fail
    have HEND:=kH (tree_end (v:=v) h5 (P4.trans (PM.of_below hb5)) rfl hR5 hgl hT5);clear hT5;refine bodyPost_ret (v:=.agg #[.int .i64 1,.string (mkS []),.int .i64 (nodeAt E.l v4.st first []),.int .i64 (v4.st.last:Int),.slice none 0 0]) (by simp[results,Tryz.results140,go_sem,r0,r1,r2,r3,r4]) rfl ?_;exact Eq.mp (congrArg (fun r=>TreeRes E w v r _ _) (show (nodeM E.l v4.st first 1 [] [],v4.st)=_ by rw[HV4.out,HRES.out])) HEND.out
end Go.Proofs.YtoepemlnlpamlaaGreat
namespace Go.Proofs.YtoepemlnlpamlaaGreat
set_option maxRecDepth 100000
set_option maxHeartbeats 4000000
open Go.RowKit
theorem field_any (E:PE) (hE:E.Ok) (v:PV) (w:World) (hpw:PW w E v):Calls Tryz.prog 127 #[.pointer (some ⟨E.gp,0,none⟩)] w (TreeRes E w v (fieldM E.bs E.l v.st)):=by
 have hgl:=hpw.blk.lt;have hk2:w.cell? ⟨E.gp,2,none⟩=some (.int .i64 (v.st.k:Int)):=hpw.blk.cell 2
 go_enter Tryz.func127,Tryz.ntmps127
 go_wp2_with fail
 generalize hW1:w.alloc (.cells #[.int .i64 0,.string ⟨#[]⟩,.int .i64 0,.int .i64 0,.slice none 0 0] 24)=W1
 have hb1:Below w.heap.size w W1:=by rw[← hW1];exact below_alloc _ _
 have hR1:Blk W1 w.heap.size 24 #[.int .i64 0,.string ⟨#[]⟩,.int .i64 0,.int .i64 0,.slice none 0 0]:=by rw[← hW1];exact Blk.new w _ _
 have hs1:W1.heap.size=w.heap.size+1:=by rw[← hW1];simp
 have hm1:=PM.of_below (E:=E) (v:=v) hb1;have h1:=hpw.below hb1;have P1:=hm1;have HS1:=kH hs1;have HM1:=kH hm1;clear hW1 hs1 hm1 hb1;refine(name_any E hE v _ h1).mono ?_;rintro e w2 ⟨rfl,v2,hv2,h2,hm2⟩;have HV2:=kH hv2;have hR2:=hm2.blk h1 hR1;have P2:=P1.trans hm2;clear hv2 hm2
 go_wp2_with fail
 refine(expect_any E hE v2 [58] _ h2).mono ?_;rintro e w3 ⟨rfl,v3,hv3,h3,hm3⟩;have HV3:=kH hv3;have hR3:=hm3.blk h2 hR2;have P3:=P2.trans hm3;clear hv3 hm3;rw[HV2.out]at HV3;have hkc:w3.cell? ⟨E.gp,2,none⟩=some (.int .i64 (v3.st.k:Int)):=h3.blk.cell 2
 obtain⟨k3,hk3⟩:∃ x,v3.st.k=x:=⟨_,rfl⟩
 rw[hk3]at hkc;have HK3:=kH hk3;clear hk3
 have his:=fun x w' (h:PW w' E v3)=>is_any E hE v3 x w' h
 obtain⟨b1,hb1⟩:∃ x,isM E.bs E.l v3.st [105,110,116] = x:=⟨_,rfl⟩
 obtain⟨b2,hb2⟩:∃ x,isM E.bs E.l v3.st [98,111,111,108] = x:=⟨_,rfl⟩
 have HIS:=kH his;have HB1:=kH hb1;have HB2:=kH hb2;clear his hb1 hb2
 go_upto_region 5 with fail
 go_cut [26] (fun s26 wx=>s26 = .bool (b1 || b2)∧Below w3.heap.size w3 wx)
 case first =>
  cases b1
  ·go_wp2_with fail
   refine(HIS.out [105,110,116] _ h3).mono ?_;rintro e w4 ⟨rfl,hb4⟩;rw[HB1.out];have h4:=h3.below hb4
   go_wp2_with fail
   refine(HIS.out [98,111,111,108] _ h4).mono ?_;rintro e w5 ⟨rfl,hb5⟩;rw[HB2.out]
   go_wp2_with fail
   go_meet
   exact⟨by simp,hb4.trans (hb5.mono hb4.size)⟩
  ·go_wp2_with fail
   refine(HIS.out [105,110,116] _ h3).mono ?_;rintro e w4 ⟨rfl,hb4⟩;rw[HB1.out]
   go_wp2_with fail
   go_meet
   exact⟨by simp,hb4⟩
 case rest =>
  obtain⟨hs26,hbw⟩:=hcut;have h4:=h3.below hbw;have hR4:=hR3.below hbw hR3.lt;have P4:=P3.trans (PM.of_below hbw)
  obtain⟨bb,hbb⟩:∃ x,(b1 || b2)=x:=⟨_,rfl⟩
  rw[hbb]at hs26;subst hs26;have HBB:=kH hbb;clear hbb hbw hkc hk2
  cases bb
  ·go_wp2_with fail
   refine(report_any E hE v3 4 [116,121,112,101] _ h4).mono ?_;rintro e w5 ⟨⟨u5x,rfl⟩,v5,hv5,h5,hm5⟩;have HV5:=kH hv5;have hR5:=hm5.blk h4 hR4;have P5:=P4.trans hm5;clear hv5 hm5
   go_wp2_with fail
   have HRES:Hid (fieldM E.bs E.l v.st=(nodeM E.l v5.st v.st.k 4 (nameT E.bs E.l v.st) [nodeM E.l v5.st k3 1 [] []],v5.st)):=kH (by
    have hc:(isM E.bs E.l (expectM E.bs E.l (nameP E.l v.st) [58]) [105,110,116] || isM E.bs E.l (expectM E.bs E.l (nameP E.l v.st) [58]) [98,111,111,108])=false:=by rw[← HV3.out,HB1.out,HB2.out,HBB.out]
    unfold fieldM;simp only
    rw[hc,if_neg (by simp),HV5.out,← HV3.out,HK3.out])
   refine(leaf_any E hE v5 _ h5 k3 1 [] (w.heap.size+1)).mono ?_;rintro e w6 ⟨rfl,hb6,hT6⟩;have h6:=h5.below hb6;have hR6:=hR5.below hb6 hR5.lt;have P6:=P5.trans (PM.of_below hb6)
   go_wp2_with fail
   generalize hW7:w6.alloc (.cells #[.int .i64 1,.string (mkS []),.int .i64 (nodeAt E.l v5.st k3 []),.int .i64 (v5.st.last:Int),.slice none 0 0] 24)=w7
   have hb7:Below w6.heap.size w6 w7:=by rw[← hW7];exact below_alloc _ _
   have hs7:w7.heap.size=w6.heap.size+1:=by rw[← hW7];simp
   have hT7:=TreeOwn.keeps (KeepsN.of_below hb7) _ _ hT6;have h7:=h6.below hb7;have hR7:=hR6.below hb7 hR6.lt;have P7:=P6.trans (PM.of_below hb7);clear hW7;have HK8:=kH (kids_lit1 hT7 (by have:=hR7.lt;omega))
   generalize hW8:w7.alloc (.cells #[.int .i64 1,.string (mkS []),.int .i64 (nodeAt E.l v5.st k3 []),.int .i64 (v5.st.last:Int),.slice none 0 0] 24)=w8 at HK8 ⊢
   have hb8:Below w7.heap.size w7 w8:=by rw[← hW8];exact below_alloc _ _
   have h8:=h7.below hb8;have hR8:=hR7.below hb8 hR7.lt;have P8:=P7.trans (PM.of_below hb8);clear hW8
   obtain⟨v8,hv8⟩:∃ v8,v8=v5:=⟨_,rfl⟩
   have HV8:Hid (v8.st=v5.st):=kH (by rw[hv8]);rw[← hv8]at h8 P8;rw[← hs7];clear hv8 hs7;refine(nodek_any E hE v8 _ h8 v.st.k 4 (nameT E.bs E.l v.st) (w.heap.size+1) (some ⟨w7.heap.size,0,none⟩) 1 1 [nodeM E.l v5.st k3 1 [] []] HK8.out).mono ?_;rintro e w9 ⟨rfl,hb9,hT9⟩;have h9:=h8.below hb9;have hR9:=hR8.below hb9 hR8.lt;obtain⟨⟨r0,r1,r2,r3,r4⟩,g0,g1,g2,g3,g4⟩:=hR9.five
   go_wp2_with fail
   have HEND:=kH (tree_end (v:=v) h9 (P8.trans (PM.of_below hb9)) rfl hR9 hgl hT9);clear hT9;refine bodyPost_ret (v:=.agg #[.int .i64 4,.string (mkS (nameT E.bs E.l v.st)),.int .i64 (nodeAt E.l v8.st v.st.k [nodeM E.l v5.st k3 1 [] []]),.int .i64 (v8.st.last:Int),.slice (some ⟨w7.heap.size,0,none⟩) 1 1]) (by simp[results,Tryz.results127,go_sem,r0,r1,r2,r3,r4]) rfl ?_;exact Eq.mp (congrArg (fun r=>TreeRes E w v r _ _) (show (nodeM E.l v8.st v.st.k 4 (nameT E.bs E.l v.st) [nodeM E.l v5.st k3 1 [] []],v8.st)=_ by rw[HRES.out,HV8.out])) HEND.out
  ·have hk5:kindM E.l v3.st≠5:=by
    intro h5;have:=HBB.out;rw[← HB1.out,← HB2.out]at this;unfold isM at this;rw[h5]at this;simp at this
   have HK5:=kH hk5;clear hk5
   go_wp2_with fail
   refine(read_any E hE v3 _ h4 HK5.out).mono ?_;rintro e w5 ⟨rfl,h5,hm5⟩;have hR5:=hm5.blk h4 hR4;have P5:=P4.trans hm5
   obtain⟨v5,hv5⟩:∃ v5:PV,(⟨readM E.l v3.st,v3.lv⟩:PV)=v5:=⟨_,rfl⟩
   rw[hv5]at h5 P5;have HV5:Hid (v5.st=readM E.l v3.st):=kH (by rw[← hv5])
   obtain⟨wd,hwd⟩:∃ x,wordM E.bs E.l v3.st.k=x:=⟨_,rfl⟩
   rw[hwd];have HWD:=kH hwd;clear hv5 hm5 hwd
   have HRES:Hid (fieldM E.bs E.l v.st=(nodeM E.l v5.st v.st.k 4 (nameT E.bs E.l v.st) [nodeM E.l v5.st k3 9 wd []],v5.st)):=kH (by
    have hc:(isM E.bs E.l (expectM E.bs E.l (nameP E.l v.st) [58]) [105,110,116] || isM E.bs E.l (expectM E.bs E.l (nameP E.l v.st) [58]) [98,111,111,108])=true:=by rw[← HV3.out,HB1.out,HB2.out,HBB.out]
    unfold fieldM;simp only
    rw[hc,if_pos rfl,HV5.out,← HV3.out,HWD.out,HK3.out])
   go_wp2_with fail
   refine(leaf_any E hE v5 _ h5 k3 9 wd (w.heap.size+1)).mono ?_;rintro e w6 ⟨rfl,hb6,hT6⟩;have h6:=h5.below hb6;have hR6:=hR5.below hb6 hR5.lt;have P6:=P5.trans (PM.of_below hb6)
   go_wp2_with fail
   generalize hW7:w6.alloc (.cells #[.int .i64 9,.string (mkS wd),.int .i64 (nodeAt E.l v5.st k3 []),.int .i64 (v5.st.last:Int),.slice none 0 0] 24)=w7
   have hb7:Below w6.heap.size w6 w7:=by rw[← hW7];exact below_alloc _ _
   have hs7:w7.heap.size=w6.heap.size+1:=by rw[← hW7];simp
   have hT7:=TreeOwn.keeps (KeepsN.of_below hb7) _ _ hT6;have h7:=h6.below hb7;have hR7:=hR6.below hb7 hR6.lt;have P7:=P6.trans (PM.of_below hb7);clear hW7;have HK8:=kH (kids_lit1 hT7 (by have:=hR7.lt;omega))
   generalize hW8:w7.alloc (.cells #[.int .i64 9,.string (mkS wd),.int .i64 (nodeAt E.l v5.st k3 []),.int .i64 (v5.st.last:Int),.slice none 0 0] 24)=w8 at HK8 ⊢
   have hb8:Below w7.heap.size w7 w8:=by rw[← hW8];exact below_alloc _ _
   have h8:=h7.below hb8;have hR8:=hR7.below hb8 hR7.lt;have P8:=P7.trans (PM.of_below hb8);clear hW8
   obtain⟨v8,hv8⟩:∃ v8,v8=v5:=⟨_,rfl⟩
   have HV8:Hid (v8.st=v5.st):=kH (by rw[hv8]);rw[← hv8]at h8 P8;rw[← hs7];clear hv8 hs7;refine(nodek_any E hE v8 _ h8 v.st.k 4 (nameT E.bs E.l v.st) (w.heap.size+1) (some ⟨w7.heap.size,0,none⟩) 1 1 [nodeM E.l v5.st k3 9 wd []] HK8.out).mono ?_;rintro e w9 ⟨rfl,hb9,hT9⟩;have h9:=h8.below hb9;have hR9:=hR8.below hb9 hR8.lt;obtain⟨⟨r0,r1,r2,r3,r4⟩,g0,g1,g2,g3,g4⟩:=hR9.five
   go_wp2_with fail
   have HEND:=kH (tree_end (v:=v) h9 (P8.trans (PM.of_below hb9)) rfl hR9 hgl hT9);clear hT9;refine bodyPost_ret (v:=.agg #[.int .i64 4,.string (mkS (nameT E.bs E.l v.st)),.int .i64 (nodeAt E.l v8.st v.st.k [nodeM E.l v5.st k3 9 wd []]),.int .i64 (v8.st.last:Int),.slice (some ⟨w7.heap.size,0,none⟩) 1 1]) (by simp[results,Tryz.results127,go_sem,r0,r1,r2,r3,r4]) rfl ?_;exact Eq.mp (congrArg (fun r=>TreeRes E w v r _ _) (show (nodeM E.l v8.st v.st.k 4 (nameT E.bs E.l v.st) [nodeM E.l v5.st k3 9 wd []],v8.st)=_ by rw[HRES.out,HV8.out])) HEND.out
end Go.Proofs.YtoepemlnlpamlaaGreat
namespace Go.Proofs.YtoepemlnlpamlaaGreat
set_option maxRecDepth 100000
set_option maxHeartbeats 4000000
open Go.RowKit
theorem node_info:(Tryz.prog.info? 24).map (fun i=>(i.zero,i.size,i.bytes))=some (some (.agg #[.int .i64 0,.string ⟨#[]⟩,.int .i64 0,.int .i64 0,.slice none 0 0]),5,64):=by kernel_rfl
theorem KidsOwn.pushed {w w1:World} {lo:Nat} {v v':Value} {n:Nat} {ts:List Tree} {t:Tree} {cs:List Value} {vals:List (List Value)} {o:Obj}
 (h2:TreesOwn w (fun g=>lo≤g∧some g≠v.ownBlock) ts vals) (hn:ts.length=n) (ht:TreeOwn w (fun g=>lo≤g∧some g≠v.ownBlock) t cs)
 (hown:OwnS w1 lo 24 5 v' (n+1) (List.flatten vals ++ cs)) (hgrow:(w.alloc o).grownBy w1 v.ownBlock) (hat:v'.ownBlock=v.ownBlock∨v'.ownBlock=some (w.alloc o).heap.size):KidsOwn w1 lo v' (n+1) (ts ++ [t]):=by
 refine KidsOwn.push h2 hn ht hown (fun g hg hne=>(hgrow.block g (by simp;omega) hne).trans (Below.heap_alloc w o g hg)) ?_
 rcases hat with h | h
 ·exact .inl h
 ·exact .inr fun g hg=>by
   rw[h]at hg;simp at hg;omega
theorem append_keeps {E:PE} {w wz w1:World} {v vz:PV} {lo:Nat} {kv:Value} {n:Nat} {xs:List Value} {o:Obj} (hz:PW wz E vz) (hP:PM E w v wz vz) (hO:OwnS wz lo 24 5 kv n xs) (hlo:w.heap.size≤lo) (hgrow:(wz.alloc o).grownBy w1 kv.ownBlock) :
 PW w1 E vz∧PM E w v w1 vz∧∀ g cs,Blk wz g 24 cs→kv.ownBlock≠some g→Blk w1 g 24 cs:=by
 have hs:Since (fun g=>kv.ownBlock=some g) wz w1:=((Since.refl (fun g=>kv.ownBlock=some g) wz).alloc o).grown hgrow (fun k hk=>.inl hk);refine⟨⟨hz.blk.since hs (hO.ne_blk hz.blk (by decide)),hz.own.since hs (fun g hg=>hz.own.apart hO (by decide) g hg),hz.toks.since hs (fun g hg=>hz.toks.apart hO (by decide) g hg),hz.at_,hz.good,hz.last⟩,⟨hP.since.step hs (fun g hg=>.inr (by have:=(hO.lt g hg).1;omega)),hP.fresh⟩,fun g cs hb hne=>hb.since hs hne⟩
theorem le_param {s:Bytes} {l:List Tok} (he:Ends l) {p:PS} (hp:p.k < l.length):Le l p (paramM s l p).2:=by
 have h1:=le_accept (s:=s) (w:=[118,97,114]) he hp;have h2:=h1.trans (le_name he h1.2);exact h2.trans (le_opt he h2.2)
end Go.Proofs.YtoepemlnlpamlaaGreat
