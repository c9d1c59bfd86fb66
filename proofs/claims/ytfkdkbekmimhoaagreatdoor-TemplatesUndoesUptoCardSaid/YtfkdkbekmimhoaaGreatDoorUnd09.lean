/- TemplatesUndoes: an edit, and then the edit that undoes it, gives the tree. Part 9 of 14. -/
import Derived.Test.YtfkdkbekmimhoaaGreatDoorUnd08
import Derived.RangeFuncNested
import Derived.RangeFuncBound
import Derived.RangeFuncCalls
import Derived.RangeFuncLeaves
import Derived.Shelf.Abstract
import Derived.Shelf.RegionOpen
import Derived.WalkKit
import Derived.OwnWalkIn
import Derived.TacticsInMore
import Derived.LoopNIn
import Derived.LoopIn
/- The reference's trees, walked: Nodes. -/
namespace Go.Proofs.YtfkdkbekmimhoaaGreatDoor
open Go.RowKit

mutual
def nodesM : Tree → List Tree
  | .node k t a e kids => .node k t a e kids :: nodesL kids
def nodesL : List Tree → List Tree
  | [] => []
  | t :: ts => nodesM t ++ nodesL ts
end

mutual
theorem nodesM_len : ∀ (t : Tree), (nodesM t).length = countM t
  | .node _ _ _ _ kids => by
    simp only [nodesM, countM, List.length_cons, nodesL_len kids]
    omega
theorem nodesL_len : ∀ (ts : List Tree), (nodesL ts).length = countsM ts
  | [] => rfl
  | t :: ts => by simp only [nodesL, countsM, List.length_append, nodesM_len t, nodesL_len ts]
end

theorem nodesM_eq (t : Tree) : nodesM t = t :: nodesL t.kids := by
  cases t
  rfl

theorem nodesL_take : ∀ (ts : List Tree) (i : Nat) (t : Tree), ts[i]? = some t → nodesL (ts.take (i + 1)) = nodesL (ts.take i) ++ nodesM t
  | [], i, t, h => by simp at h
  | u :: ts, 0, t, h => by
    simp at h
    subst h
    simp [nodesL]
  | u :: ts, i + 1, t, h => by
    have := nodesL_take ts i t (by simpa using h)
    simp only [List.take_succ_cons, nodesL, this, List.append_assoc]

/-- The values of nodes, each read only. -/
def ValsAt (w : World) (B : Nat) : List Tree → List (List Value) → Prop
  | [], vals => vals = []
  | t :: ts, vals => ∃ v vs, vals = v :: vs ∧ TreeAt w B t v ∧ ValsAt w B ts vs

theorem ValsAt.append {w : World} {B : Nat} : ∀ {ts us : List Tree} {vs ws : List (List Value)}, ValsAt w B ts vs → ValsAt w B us ws → ValsAt w B (ts ++ us) (vs ++ ws)
  | [], us, vs, ws, h, h2 => by
    have : vs = [] := h
    subst this
    exact h2
  | t :: ts, us, _, ws, h, h2 => by
    obtain ⟨v, vs, rfl, h3, h4⟩ := h
    exact ⟨v, vs ++ ws, rfl, h3, ValsAt.append h4 h2⟩

theorem ValsAt.below {w w' : World} {B B' : Nat} (hb : Below B' w w') (hB : B ≤ B') : ∀ {ts : List Tree} {vs : List (List Value)}, ValsAt w B ts vs → ValsAt w' B ts vs
  | [], _, h => h
  | _ :: _, _, h => by
    obtain ⟨v, vs, rfl, h3, h4⟩ := h
    exact ⟨v, vs, rfl, TreeAt.below hb hB _ _ h3, ValsAt.below hb hB h4⟩

theorem ValsAt.mono {w : World} {B B' : Nat} (hB : B ≤ B') : ∀ {ts : List Tree} {vs : List (List Value)}, ValsAt w B ts vs → ValsAt w B' ts vs
  | [], _, h => h
  | _ :: _, _, h => by
    obtain ⟨v, vs, rfl, h3, h4⟩ := h
    exact ⟨v, vs, rfl, TreeAt.mono hB _ _ h3, ValsAt.mono hB h4⟩

theorem ValsAt.lens {w : World} {B : Nat} : ∀ {ts : List Tree} {vs : List (List Value)}, ValsAt w B ts vs → (List.flatten vs).length = ts.length * 5 ∧ ∀ u ∈ List.flatten vs, u.oneCell' = true
  | [], vs, h => by
    have : vs = [] := h
    subst this
    exact ⟨rfl, by simp⟩
  | t :: ts, _, h => by
    obtain ⟨v, vs, rfl, h3, h4⟩ := h
    have ih := ValsAt.lens h4
    obtain ⟨A, c, rfl, -⟩ := h3.five
    refine ⟨?_, fun u hu => ?_⟩
    · simp only [List.flatten_cons, List.length_append, ih.1, List.length_cons, List.length_nil]
      omega
    · simp only [List.flatten_cons, List.mem_append] at hu
      rcases hu with hu | hu
      · simp at hu
        rcases hu with rfl | rfl | rfl | rfl | rfl <;> rfl
      · exact ih.2 u hu

def NodesRes (w : World) (B : Nat) (ts : List Tree) (e : Ending) (w' : World) : Prop :=
  ∃ v n vals, e = .returned v ∧ n = ts.length ∧ OwnS w' w.heap.size 24 5 v n (List.flatten vals) ∧ ValsAt w' B ts vals ∧ Below w.heap.size w w'

set_option maxHeartbeats 2000000 in
set_option maxRecDepth 100000 in
theorem nodes3_any : ∀ (m : Nat) (t : Tree) (A : Option Addr) (c : Nat) (w : World) (B : Nat), B ≤ w.heap.size → countM t ≤ m → m ≤ 1000000000 → t.kids.length ≤ c → KidsAt w B A 0 t.kids →
    Calls Tryz.prog 53 #[nodeV t A c] w (NodesRes w B (nodesM t)) := by
  obtain ⟨i0, hi0, hz0, hz1, hz2⟩ := info_parts node_info
  intro m
  induction m with
  | zero =>
    intro t A c w B _ h
    have := countM_pos t
    omega
  | succ m ih =>
    intro t A c w B hBw hm hbig hcap hk
    have hce := countM_eq t
    have hnd := nodesM_eq t
    obtain ⟨kids, hkids⟩ : ∃ x, t.kids = x := ⟨_, rfl⟩
    obtain ⟨n, hn⟩ : ∃ x, kids.length = x := ⟨_, rfl⟩
    have hTn : ∀ w', KidsAt w' B A 0 t.kids → TreeAt w' B t [.int .i64 t.kind, .string t.text, .int .i64 t.at_, .int .i64 t.end_, .slice A t.kids.length c] := fun w' h => by cases t; exact ⟨A, c, rfl, hcap, h⟩
    unfold nodeV
    rw [hkids] at hk hce hnd hTn ⊢
    rw [hn] at hTn ⊢
    obtain ⟨k, hk0⟩ : ∃ x, t.kind = x := ⟨_, rfl⟩
    obtain ⟨x, hx0⟩ : ∃ x, t.text = x := ⟨_, rfl⟩
    obtain ⟨a, ha0⟩ : ∃ x, t.at_ = x := ⟨_, rfl⟩
    obtain ⟨z, hzz⟩ : ∃ x, t.end_ = x := ⟨_, rfl⟩
    rw [hk0, hx0, ha0, hzz] at hTn ⊢
    have hcl := counts_len kids
    have HTN := Lib.hid hTn
    have HK := Lib.hid hk
    have HN := Lib.hid hn
    have HND := Lib.hid hnd
    have HIH := Lib.hid ih
    have HM : Hid (countsM kids ≤ m ∧ m ≤ 1000000000) := Lib.hid ⟨by omega, by omega⟩
    have hnb : n ≤ 1000000000 := by omega
    clear hk hce ih hm hbig hcap hk0 hx0 ha0 hzz hkids hn hcl hTn hnd
    go_enter Tryz.func53, Tryz.ntmps53
    go_wp2_with fail
    generalize hW1 : w.alloc (.cells #[.int .i64 k, .string x, .int .i64 a, .int .i64 z, .slice A n c] 24) = W1
    have hb1 : Below w.heap.size w W1 := by rw [← hW1]; exact below_alloc _ _
    have hR1 : Blk W1 w.heap.size 24 #[.int .i64 k, .string x, .int .i64 a, .int .i64 z, .slice A n c] := by rw [← hW1]; exact Blk.new w _ _
    have hs1 : W1.heap.size = w.heap.size + 1 := by rw [← hW1]; simp
    rw [← hs1]
    generalize hW2 : W1.alloc (.cells #[.int .i64 k, .string x, .int .i64 a, .int .i64 z, .slice A n c] 24) = W2
    have hb2 : Below W1.heap.size W1 W2 := by rw [← hW2]; exact below_alloc _ _
    have hO2 : OwnS W2 W1.heap.size 24 5 (.slice (some ⟨W1.heap.size, 0, none⟩) 1 1) 1 (List.flatten [[.int .i64 k, .string x, .int .i64 a, .int .i64 z, .slice A n c]]) := by
      have := OwnS.block (base := W1.heap.size) (e := 24) (size := 5) (n := 1) (Nat.le_refl _) (Blk.new W1 24 #[.int .i64 k, .string x, .int .i64 a, .int .i64 z, .slice A n c]) (by simp [maxLen]) rfl
      rw [hW2] at this
      exact this
    have hR2 := hR1.below hb2 hR1.lt
    have hb02 := hb1.trans (hb2.mono hb1.size)
    have hk2 := KidsAt.below hb02 hBw _ _ _ HK.out
    have hv2 : ValsAt W2 B [t] [[.int .i64 k, .string x, .int .i64 a, .int .i64 z, .slice A n c]] := ⟨_, _, rfl, HTN.out W2 hk2, rfl⟩
    have HR2 := Lib.hid hR2
    have HO2 := Lib.hid hO2
    have HB2 := Lib.hid hb02
    have HV2 := Lib.hid hv2
    have HK2 := Lib.hid hk2
    have hl2 := hR2.lt
    have HS1 : Hid (W1.heap.size = w.heap.size + 1 ∧ W1.heap.size < W2.heap.size) := Lib.hid ⟨hs1, by rw [← hW2]; simp⟩
    clear hW1 hW2 hb1 hb2 hR1 hR2 hO2 hb02 hk2 hv2 hs1
    go_loopg [3, 4] n (fun gk s3 s4 wr => ∃ (i : Nat) (A3 : Option Addr) (n3 c3 : Nat) (vals : List (List Value)), i + gk = n ∧ s3 = .slice A3 n3 c3 ∧ s4 = .int .i64 (i : Int) ∧ n3 = 1 + countsM (kids.take i) ∧ OwnS wr W1.heap.size 24 5 (.slice A3 n3 c3) n3 (List.flatten vals) ∧ ValsAt wr B (t :: nodesL (kids.take i)) vals ∧ Below W1.heap.size W2 wr)
    case atStart => exact ⟨0, _, 1, 1, _, by omega, rfl, rfl, by simp [countsM], HO2.out, by simpa [nodesL] using HV2.out, Below.refl _ _⟩
    case round =>
      obtain ⟨i, A3, n3, c3, vals, hi, rfl, rfl, hn3, hO, hV, hB⟩ := hrel
      have hS1 := HS1.out
      have hRr := HR2.out.below hB (by omega)
      have hc4 : wr.cell? ⟨w.heap.size, 4, none⟩ = some (.slice A n c) := hRr.cell 4
      have hlr := hRr.lt
      have HB := Lib.hid hB
      have HI := Lib.hid hi
      have HO := Lib.hid hO
      have HV := Lib.hid hV
      have HN3 := Lib.hid hn3
      have hin : i ≤ n := by omega
      have hcl := countsM_le kids i
      have hcb : n3 ≤ 1000000001 := by have := HM.out; omega
      clear hB hRr hi hcl hO hV hn3 hS1
      by_cases hlt : i < n
      · have hlt' : (i : Int) < (n : Int) := by omega
        obtain ⟨u, hu⟩ : ∃ u, kids[i]? = some u := ⟨_, List.getElem?_eq_getElem (by rw [HN.out]; exact hlt)⟩
        obtain ⟨kv, ⟨b, off, hA, hbl, hcs⟩, hT⟩ := HK2.out.get i u hu
        obtain ⟨A', c', hvals, hK'⟩ := hT.five
        subst hA
        subst hvals
        have hcapu := hT.cap
        have hS1 := HS1.out
        have hbb : b < wr.heap.size := by omega
        have hbW : b < W1.heap.size := by omega
        have t0 : wr.cell? ⟨b, off + i * 5, none⟩ = some (.int .i64 u.kind) := (HB.out.cell (p := ⟨b, _, none⟩) hbW).trans (by simpa using hcs 0 _ rfl)
        have t1 : wr.cell? ⟨b, off + i * 5 + 1, none⟩ = some (.string u.text) := (HB.out.cell (p := ⟨b, _, none⟩) hbW).trans (by simpa using hcs 1 _ rfl)
        have t2 : wr.cell? ⟨b, off + i * 5 + 2, none⟩ = some (.int .i64 u.at_) := (HB.out.cell (p := ⟨b, _, none⟩) hbW).trans (by simpa using hcs 2 _ rfl)
        have t3 : wr.cell? ⟨b, off + i * 5 + 3, none⟩ = some (.int .i64 u.end_) := (HB.out.cell (p := ⟨b, _, none⟩) hbW).trans (by simpa using hcs 3 _ rfl)
        have t4 : wr.cell? ⟨b, off + i * 5 + 4, none⟩ = some (.slice A' u.kids.length c') := (HB.out.cell (p := ⟨b, _, none⟩) hbW).trans (by simpa using hcs 4 _ rfl)
        have htk := countsM_take kids i u hu
        have hle := countsM_le kids (i + 1)
        have hnt := nodesL_take kids i u hu
        have hbsz := HB.out.size
        have hcall := HIH.out u A' c' wr B (by omega) (by have := HM.out; omega) HM.out.2 hcapu (KidsAt.below HB.out (by omega) _ _ _ hK')
        unfold nodeV at hcall
        have HC := Lib.hid hcall
        have HTK := Lib.hid htk
        have HNT := Lib.hid hnt
        have hub : countM u ≤ 1000000001 := by have := HM.out; omega
        have HUB := Lib.hid hub
        have hup := countM_pos u
        have HUP := Lib.hid hup
        have hwr : IntKind.i64.wrap ((i : Int) + 1) = (i : Int) + 1 := IntWalk.i64_in _ (by omega)
        obtain ⟨un, hun⟩ : ∃ q, u.kids.length = q := ⟨_, rfl⟩
        rw [hun] at t4 HC
        have HZ : Hid (W1.heap.size ≤ wr.heap.size ∧ w.heap.size ≤ W1.heap.size ∧ w.heap.size < wr.heap.size) := Lib.hid ⟨by omega, by omega, by omega⟩
        clear hcs hT hK' htk hle hnt hcall hu hun hub hup hS1 hbsz hcapu
        go_wp2_with fail
        refine HC.out.mono ?_
        rintro e w5 ⟨v5, n5, vals5, rfl, hn5, hO5, hV5, hb5⟩
        rw [nodesM_len] at hn5
        have hn5p : 0 < n5 := by rw [hn5]; exact HUP.out
        obtain ⟨g5, off5, cap5, rfl, hc5, hm5, hg5, hgl5, hcells5⟩ := hO5.form hn5p
        have hlen5 := hV5.lens
        rw [nodesM_len, ← hn5] at hlen5
        have hO5r := HO.out.below hb5 (fun g hg => (HO.out.lt g hg).2)
        have hsz5 := hb5.size
        have HO5R := Lib.hid hO5r
        have HL5 := Lib.hid hlen5
        have HNW : Hid (∀ j u, (List.flatten vals5)[j]? = some u → w5.cell? ((⟨g5, off5, none⟩ : Addr).add j) = some u) := Lib.hid (fun j u hu => by
          have h5 := hcells5 j u hu
          by_cases h0 : j = 0
          · subst h0
            simpa [Addr.add] using h5
          · simpa [Addr.add, h0] using h5)
        have HV5 := Lib.hid hV5
        have HB5 := Lib.hid hb5
        have HO5 := Lib.hid hO5
        have HN5 := Lib.hid hn5
        have hn5b : n5 ≤ 1000000001 := by have := HUB.out; omega
        have HZ5 : Hid (W1.heap.size ≤ w5.heap.size ∧ wr.heap.size ≤ g5) := Lib.hid ⟨by have := HZ.out; omega, hg5⟩
        clear hO5r hlen5 hcells5 hV5 hb5 hO5 hn5 hc5 hm5 hg5 hn5p
        go_wp2_with (at_builtin; go_must (refine wpList_append_S _ rfl (.tmp 14) (.tmp 20) _ rfl W1.heap.size 24 i0 _ 5 64 Tryz.underlying22 hi0 hz0 hz1 hz2 rfl (.slice A3 n3 c3) n3 (List.flatten vals) rfl HO5R.out ⟨g5, off5, none⟩ n5 cap5 (List.flatten vals5) rfl HL5.out.1 (HNW.out) HL5.out.2 (by simp only [maxLen]; omega) (by omega) HZ5.out.1 ?_); intro vn w6 hown hgrow hat; obtain ⟨A6, c6, hvn, -, -⟩ := hown.shape; subst hvn; have HOWN := Lib.hid hown; have HGROW := Lib.hid hgrow; clear hown hgrow hat)
        have hB6 : Below W1.heap.size W2 w6 := ((HB.out.trans (HB5.out.mono HZ.out.1)).trans (((Since.refl (fun g => W1.heap.size ≤ g) w5).grown HGROW.out (fun g hg => .inl (HO.out.lt g hg).1)).toBelow HZ5.out.1 (fun g hg => hg)))
        have hb56 : Below w.heap.size w5 w6 := ((Since.refl (fun g => W1.heap.size ≤ g) w5).grown HGROW.out (fun g hg => .inl (HO.out.lt g hg).1)).toBelow (by have := HZ.out; have := HZ5.out; omega) (fun g hg => by have := HZ.out; omega)
        have hV6 : ValsAt w6 B (t :: nodesL (kids.take (i + 1))) (vals ++ vals5) := by
          rw [HNT.out, ← List.cons_append]
          exact ((HV.out.below (HB5.out.mono (by have := HZ.out; omega)) hBw).append HV5.out).below hb56 hBw
        go_roundg (gk - 1)
        case measure => have := HI.out; omega
        case rel => exact ⟨i + 1, A6, n3 + n5, c6, vals ++ vals5, by have := HI.out; omega, rfl, by simp, by rw [HTK.out, HN3.out, HN5.out]; omega, by rw [List.flatten_append]; exact HOWN.out, hV6, hB6⟩
      · have hie : i = n := by omega
        have htake : kids.take i = kids := by rw [hie, ← HN.out, List.take_length]
        have hV2 := HV.out
        rw [htake, ← HND.out] at hV2
        have HV2' := Lib.hid hV2
        have hn2 : n3 = (nodesM t).length := by rw [HN3.out, htake, HND.out, List.length_cons, nodesL_len]; omega
        have HN2 := Lib.hid hn2
        clear hV2 hn2
        go_wp2_with fail
        go_ret
        exact ⟨_, n3, vals, rfl, HN2.out, HO.out.mono (by have := HS1.out; omega), HV2'.out, HB2.out.trans (HB.out.mono (by have := HS1.out; omega))⟩

end Go.Proofs.YtfkdkbekmimhoaaGreatDoor
/- Package tree, walked: visit and nodes, an iterator over a tree. -/
namespace Go.Proofs.YtfkdkbekmimhoaaGreatDoor
open Go.RowKit Go.Shelf

attribute [local go_sem] Oper.semAt_some

theorem room_of_none {F : Fence} (hd : F.depth = none) (k : Nat) : F.room k := fun d h => by rw [hd] at h; cases h
/-- Where no depth is asked the figures are all one. -/
theorem round_any {F : Fence} (hd : F.depth = none) {m m' : Nat} {P : Program} {l : Nat} {f : FuncId} {tmps : Array Value} {assign body : Code} {w : World} {R : Ending → World → Prop}
    (h : RoundIn F m P l f tmps assign body w R) : RoundIn F m' P l f tmps assign body w R := ⟨h.1, fun c cs _ => h.2 c cs (room_of_none hd _)⟩
theorem yield_any {F : Fence} (hd : F.depth = none) {m : Nat} (m' : Nat) {P : Program} {l : Nat} {args : Array Value} {W : World} {R : Ending → World → Prop} (h : YieldAt F m P l args W R) : YieldAt F m' P l args W R := by
  obtain ⟨fn, tmps, assign, body, hy, hR⟩ := h
  exact ⟨fn, tmps, assign, body, hy, round_any hd hR⟩

/-- A node that a loop over a tree's nodes is handed: its kids were read only where the loop began. -/
structure NAt (w : World) (B M : Nat) where
  t : Tree
  A : Option Addr
  c : Nat
  kids : KidsAt w B A 0 t.kids
  small : countM t ≤ M

theorem nodesL_append : ∀ (a b : List Tree), nodesL (a ++ b) = nodesL a ++ nodesL b
  | [], _ => rfl
  | t :: ts, b => by simp only [List.cons_append, nodesL, nodesL_append ts b, List.append_assoc]

/-- Blocks of cells below B, and from n₁ on, lie as they lay. -/
structure CKeep (B n₁ : Nat) (W W' : World) : Prop where
  size : W.heap.size ≤ W'.heap.size
  same : ∀ (g : Nat) (o : Obj), (g < B ∨ n₁ ≤ g) → W.heap[g]? = some o → o.isCells = true → W'.heap[g]? = some o

theorem CKeep.refl (B n₁ : Nat) (W : World) : CKeep B n₁ W W := ⟨Nat.le_refl _, fun _ _ _ h _ => h⟩
theorem CKeep.trans {B n₁ : Nat} {W W1 W2 : World} (h : CKeep B n₁ W W1) (k : CKeep B n₁ W1 W2) : CKeep B n₁ W W2 :=
  ⟨Nat.le_trans h.size k.size, fun g o hg ho hc => k.same g o hg (h.same g o hg ho hc) hc⟩
theorem CKeep.of_below {B n₁ n : Nat} {W W' : World} (h : Below n W W') (hn : n = W.heap.size) : CKeep B n₁ W W' :=
  ⟨h.size, fun g o _ ho _ => (h.block g (by subst hn; exact (Array.getElem?_eq_some_iff.1 ho).1)).trans ho⟩
theorem CKeep.putObj {B n₁ : Nat} {W : World} {l : Nat} {o : Obj} (o' : Obj) (h : W.heap[l]? = some o) (hc : o.isCells = false) : CKeep B n₁ W (W.putObj l o') := by
  have hlt := (Array.getElem?_eq_some_iff.1 h).1
  refine ⟨(grownBy_putObj' W l o').size, fun g p _ hg hp => ?_⟩
  have hne : g ≠ l := fun e => by
    subst e
    rw [h] at hg
    cases hg
    rw [hc] at hp
    cases hp
  exact ((grownBy_putObj' W l o').block g (Array.getElem?_eq_some_iff.1 hg).1 (fun e => hne (by cases e; rfl))).trans hg
theorem CKeep.setCell {B n₁ : Nat} {W : World} (p : Addr) (u : Value) (h1 : B ≤ p.block) (h2 : p.block < n₁) : CKeep B n₁ W (W.setCell p u) :=
  ⟨by simp, fun g o hg ho _ => (Below.heap_setCell W p u g (by omega)).trans ho⟩

theorem cell_obj {W : World} {p : Addr} {v : Value} (h : W.cell? p = some v) : ∃ o, W.heap[p.block]? = some o ∧ o.isCells = true := by
  unfold World.cell? at h
  cases ho : W.heap[p.block]? with
  | none => rw [ho] at h; simp at h
  | some o =>
    refine ⟨o, rfl, ?_⟩
    rw [ho] at h
    cases o <;> simp_all [Obj.isCells]

theorem CKeep.cell {B n₁ : Nat} {W W' : World} (h : CKeep B n₁ W W') {p : Addr} {v : Value} (hp : p.block < B ∨ n₁ ≤ p.block) (hv : W.cell? p = some v) : W'.cell? p = some v := by
  obtain ⟨o, ho, hc⟩ := cell_obj hv
  have h2 := h.same _ _ hp ho hc
  unfold World.cell? at hv ⊢
  rw [h2]
  rw [ho] at hv
  exact hv

theorem CKeep.blk {B n₁ : Nat} {W W' : World} (h : CKeep B n₁ W W') {g : Nat} {t : TypeId} {cs : Array Value} (hg : g < B ∨ n₁ ≤ g) (hb : Blk W g t cs) : Blk W' g t cs := h.same g _ hg hb rfl

mutual
theorem CKeep.treeAt {B n₁ : Nat} {W W' : World} (h : CKeep B n₁ W W') : ∀ (t : Tree) (cs : List Value), TreeAt W B t cs → TreeAt W' B t cs
  | .node _ _ _ _ kids, _, ⟨A, c, h1, hc, h2⟩ => ⟨A, c, h1, hc, CKeep.kidsAt h kids A 0 h2⟩
theorem CKeep.kidsAt {B n₁ : Nat} {W W' : World} (h : CKeep B n₁ W W') : ∀ (ts : List Tree) (A : Option Addr) (i : Nat), KidsAt W B A i ts → KidsAt W' B A i ts
  | [], _, _, _ => trivial
  | t :: ts, A, i, ⟨⟨b, off, vals, h1, h2, h3, h4⟩, h5⟩ => ⟨⟨b, off, vals, h1, h2, fun j v hv => h.cell (.inl h2) (h3 j v hv), CKeep.treeAt h t vals h4⟩, CKeep.kidsAt h ts A (i + 1) h5⟩
end

set_option maxRecDepth 100000 in
set_option maxHeartbeats 2000000 in
theorem visit_in (F : Fence) (hd : F.depth = none) (hf : F.fn 168) (hro : F.round = none) (l B n₁ M N : Nat) (hB : B ≤ n₁) (hM : M ≤ 1000000000) (w0 : World) (J Jx : List (NAt w0 B M) → World → Prop)
    (hJ : ∀ s W o, J s W → J s (W.alloc o))
    (hY : ∀ m pre x W, J pre W → pre.length < N → YieldAt F m Tryz.prog l #[nodeV x.t x.A x.c] W fun e W' =>
      (e = .returned (.bool true) ∧ J (pre ++ [x]) W' ∧ CKeep B n₁ W W') ∨ (e = .returned (.bool false) ∧ Jx (pre ++ [x]) W')) :
    ∀ (m : Nat) (t : Tree) (A : Option Addr) (c n : Nat) (pre : List (NAt w0 B M)) (W : World), countM t ≤ m → m ≤ M → KidsAt w0 B A 0 t.kids → CKeep B n₁ w0 W → n₁ ≤ W.heap.size → J pre W → pre.length + countM t ≤ N →
      CallsIn F n Tryz.prog 168 #[nodeV t A c, .func (.yield l) #[] #[]] W fun e W' =>
        (e = .returned (.bool true) ∧ ∃ ys : List (NAt w0 B M), ys.map (·.t) = nodesM t ∧ J (pre ++ ys) W' ∧ CKeep B n₁ W W') ∨
        (e = .returned (.bool false) ∧ ∃ q : List (NAt w0 B M), q.map (·.t) <+: nodesM t ∧ Jx (pre ++ q) W') := by
  intro m
  induction m with
  | zero =>
    intro t A c n pre W h
    have := countM_pos t
    omega
  | succ m ih =>
    intro t A c n pre W hm hmM hk hw0 hsz hj hN
    have hdd : ∀ k : Nat, (F.depth.isSome = true → 1 ≤ k) := fun k h => by rw [hd] at h; cases h
    have hce := countM_eq t
    have hnd := nodesM_eq t
    obtain ⟨x, hx⟩ : ∃ x : NAt w0 B M, x = ⟨t, A, c, hk, by omega⟩ := ⟨_, rfl⟩
    have hy0 := fun W' hj' => hY (n - 1) pre x W' hj' (by omega)
    have hxt : x.t = t := by rw [hx]
    have hxA : x.A = A := by rw [hx]
    have hxc : x.c = c := by rw [hx]
    rw [hxt, hxA, hxc] at hy0
    clear hx
    obtain ⟨kids, hkids⟩ : ∃ x, t.kids = x := ⟨_, rfl⟩
    obtain ⟨nk, hn⟩ : ∃ x, kids.length = x := ⟨_, rfl⟩
    unfold nodeV at hy0 ⊢
    rw [hkids] at hk hce hnd hy0 ⊢
    rw [hn] at hy0 ⊢
    obtain ⟨k, hk0⟩ : ∃ x, t.kind = x := ⟨_, rfl⟩
    obtain ⟨tx, hx0⟩ : ∃ x, t.text = x := ⟨_, rfl⟩
    obtain ⟨a, ha0⟩ : ∃ x, t.at_ = x := ⟨_, rfl⟩
    obtain ⟨z, hzz⟩ : ∃ x, t.end_ = x := ⟨_, rfl⟩
    rw [hk0, hx0, ha0, hzz] at hy0 ⊢
    have hcl := counts_len kids
    have hnb : nk ≤ 1000000000 := by omega
    generalize hW1 : W.alloc (.cells #[.int .i64 k, .string tx, .int .i64 a, .int .i64 z, .slice A nk c] 24) = W1
    have hj1 : J pre W1 := by rw [← hW1]; exact hJ _ _ _ hj
    have hk1 : CKeep B n₁ W W1 := by rw [← hW1]; exact CKeep.of_below (below_alloc _ _) rfl
    have hR1 : Blk W1 W.heap.size 24 #[.int .i64 k, .string tx, .int .i64 a, .int .i64 z, .slice A nk c] := by rw [← hW1]; exact Blk.new W _ _
    have hy1 := (hy0 W1 hj1).mono (R' := fun e W2 => (e = .returned (.bool true) ∧ W2.cell? ⟨W.heap.size, 4, none⟩ = some (.slice A nk c) ∧ J (pre ++ [x]) W2 ∧ CKeep B n₁ W W2) ∨ (e = .returned (.bool false) ∧ Jx (pre ++ [x]) W2))
      (fun e W2 h => h.elim (fun ⟨h1, h2, h3⟩ => .inl ⟨h1, (h3.blk (.inr hsz) hR1).cell 4, h2, hk1.trans h3⟩) .inr)
    rw [← hW1] at hy1
    clear hy0 hW1 hj1 hk1 hR1
    refine callsIn_of_wp Tryz.func168 rfl hf ?_ hro
    simp only [Tryz.ntmps168, List.size_toArray, List.length_cons, List.length_nil, Nat.reduceAdd, Nat.reduceSub, Array.replicate_succ, Array.replicate_zero, List.push_toArray, List.append_toArray, List.nil_append, List.cons_append]
    obtain ⟨fn, tmps, assign, body, hy, hR⟩ := hy1
    gi_wp2_with (first
      | ((try refine ⟨hdd _, ?_⟩); refine hR.mono ?_; clear hR; rintro e W2 (⟨rfl, c4, hJ2, hk2⟩ | ⟨rfl, hx2⟩)))
    · have HK := Lib.hid hk
      have HN := Lib.hid hn
      have HND := Lib.hid hnd
      have HIH := Lib.hid ih
      have HM : Hid (countsM kids ≤ m ∧ m ≤ 1000000000 ∧ m ≤ M ∧ pre.length + 1 + countsM kids ≤ N) := Lib.hid ⟨by omega, by omega, by omega, by omega⟩
      have HJ := Lib.hid hJ
      have HW0 := Lib.hid hw0
      have HJ2 := Lib.hid hJ2
      have HK2 := Lib.hid hk2
      have HXT := Lib.hid hxt
      clear hk hn hnd ih hm hmM hN hY hJ hw0 hJ2 hk2 hj hce hkids hcl hxt hxA hxc c4
      gi_loopw [14] (fun p wr => ∃ (i : Nat) (ys : List (NAt w0 B M)), p = .int .i64 (i : Int) ∧ i ≤ nk ∧ Hid (ys.map (·.t) = nodesL (kids.take i) ∧ J (pre ++ x :: ys) wr ∧ CKeep B n₁ W wr)) (fun p _ => nk - (intOf p).toNat)
      case atStart => exact ⟨0, [], rfl, Nat.zero_le _, Lib.hid ⟨by simp [nodesL], HJ2.out, HK2.out⟩⟩
      case round =>
        obtain ⟨i, ys, rfl, hi, HI⟩ := hrel
        by_cases hlt : i < nk
        · obtain ⟨u, hu⟩ : ∃ u, kids[i]? = some u := ⟨_, List.getElem?_eq_getElem (by rw [HN.out]; exact hlt)⟩
          obtain ⟨kv, ⟨b, off, hA, hbl, hcs⟩, hT⟩ := HK.out.get i u hu
          obtain ⟨A', c', hvals, hK'⟩ := hT.five
          have hbwr : b < wr.heap.size := by have := HI.out.2.2.size; omega
          subst hA
          subst hvals
          have hkw := HW0.out.trans HI.out.2.2
          have t0 : wr.cell? ⟨b, off + i * 5, none⟩ = some (.int .i64 u.kind) := hkw.cell (.inl hbl) (by simpa using hcs 0 _ rfl)
          have t1 : wr.cell? ⟨b, off + i * 5 + 1, none⟩ = some (.string u.text) := hkw.cell (.inl hbl) (by simpa using hcs 1 _ rfl)
          have t2 : wr.cell? ⟨b, off + i * 5 + 2, none⟩ = some (.int .i64 u.at_) := hkw.cell (.inl hbl) (by simpa using hcs 2 _ rfl)
          have t3 : wr.cell? ⟨b, off + i * 5 + 3, none⟩ = some (.int .i64 u.end_) := hkw.cell (.inl hbl) (by simpa using hcs 3 _ rfl)
          have t4 : wr.cell? ⟨b, off + i * 5 + 4, none⟩ = some (.slice A' u.kids.length c') := hkw.cell (.inl hbl) (by simpa using hcs 4 _ rfl)
          have htk := countsM_take kids i u hu
          have hle := countsM_le kids (i + 1)
          have hnt := nodesL_take kids i u hu
          have hup := countM_pos u
          obtain ⟨W4, hW4⟩ : ∃ W4, wr.alloc (.cells #[.int .i64 u.kind, .string u.text, .int .i64 u.at_, .int .i64 u.end_, .slice A' u.kids.length c'] 24) = W4 := ⟨_, rfl⟩
          have hk4 : CKeep B n₁ W W4 := by rw [← hW4]; exact HI.out.2.2.trans (CKeep.of_below (below_alloc _ _) rfl)
          have hj4 : J (pre ++ x :: ys) W4 := by rw [← hW4]; exact HJ.out _ _ _ HI.out.2.1
          have hlen : ys.length = countsM (kids.take i) := by rw [← nodesL_len, ← HI.out.1, List.length_map]
          have hcall := HIH.out u A' c' (n - 1) (pre ++ x :: ys) W4 (by have := HM.out; omega) HM.out.2.2.1 hK' (HW0.out.trans hk4) (by have := hk4.size; omega) hj4 (by have := HM.out; simp only [List.length_append, List.length_cons]; omega)
          have hcall2 := hcall.mono (R' := fun e W5 => (e = .returned (.bool true) ∧ Hid (∃ zs : List (NAt w0 B M), zs.map (·.t) = nodesL (kids.take (i + 1)) ∧ J (pre ++ x :: zs) W5 ∧ CKeep B n₁ W W5)) ∨ (e = .returned (.bool false) ∧ Hid (∃ q : List (NAt w0 B M), q.map (·.t) <+: nodesL kids ∧ Jx (pre ++ x :: q) W5)))
            (fun e W5 h => h.elim (fun ⟨h1, zs, h2, h3, h4⟩ => .inl ⟨h1, Lib.hid ⟨ys ++ zs, by rw [List.map_append, h2, HI.out.1, hnt], by simpa [List.append_assoc] using h3, hk4.trans h4⟩⟩)
              (fun ⟨h1, q, h2, h3⟩ => .inr ⟨h1, Lib.hid ⟨ys ++ q, by
                rw [List.map_append, HI.out.1]
                have h5 : nodesL (kids.take i) ++ nodesM u <+: nodesL kids := by
                  rw [← hnt]
                  conv => rhs; rw [← List.take_append_drop (i + 1) kids, nodesL_append]
                  exact List.prefix_append _ _
                exact ((List.prefix_append_right_inj _).2 h2).trans h5, by simpa [List.append_assoc] using h3⟩⟩))
          rw [← hW4] at hcall2
          unfold nodeV at hcall2
          have hwrp : IntKind.i64.wrap ((i : Int) + 1) = (i : Int) + 1 := IntWalk.i64_in _ (by omega)
          obtain ⟨un, hun⟩ : ∃ q, u.kids.length = q := ⟨_, rfl⟩
          rw [hun] at t4 hcall2
          clear hcs hT hK' hkw htk hle hnt hup hW4 hk4 hj4 hlen hcall hun hu HI
          gi_wp2_with (first
            | ((try refine ⟨hdd _, ?_⟩); gi_at_call 168; refine hcall2.mono ?_; clear hcall2; rintro e W5 (⟨rfl, HI5⟩ | ⟨rfl, HI5⟩)))
          · obtain ⟨zs, hz⟩ := HI5.out
            exact ⟨⟨i + 1, zs, by simp, by omega, Lib.hid hz⟩, by simp only [intOf]; omega⟩
          · go_ret
            obtain ⟨q, hq, hx⟩ := HI5.out
            exact .inr ⟨rfl, x :: q, by rw [HND.out, List.map_cons, HXT.out]; exact List.cons_prefix_cons.2 ⟨rfl, hq⟩, hx⟩
        · have hie : i = nk := by omega
          subst hie
          have htake : kids.take i = kids := by rw [← HN.out, List.take_length]
          have H1 := HI.out.1
          rw [htake] at H1
          gi_wp2
          go_ret
          exact .inl ⟨rfl, x :: ys, by rw [HND.out, List.map_cons, HXT.out, H1], HI.out.2.1, HI.out.2.2⟩
    · go_ret
      exact .inr ⟨rfl, [x], by rw [hnd]; simp [hxt], hx2⟩

set_option maxHeartbeats 1000000 in
/-- 'func(yield ..) { visit(n, yield) }'. -/
theorem nodes1_in (F : Fence) (hd : F.depth = none) (h1 : F.fn 167) (hf : F.fn 168) (hro : F.round = none) (l Bt B n₁ M : Nat) (hB : B ≤ n₁) (hM : M ≤ 1000000000) (w0 : World) (n : Nat) (t : Tree) (A : Option Addr) (c : Nat) (J Jx : List (NAt w0 B M) → World → Prop)
    (hJ : ∀ s W o, J s W → J s (W.alloc o))
    (hY : ∀ pre x W, J pre W → pre.length < countM t → YieldAt F (n - 1) Tryz.prog l #[nodeV x.t x.A x.c] W fun e W' =>
      (e = .returned (.bool true) ∧ J (pre ++ [x]) W' ∧ CKeep B n₁ W W') ∨ (e = .returned (.bool false) ∧ Jx (pre ++ [x]) W'))
    (W : World) (hm : countM t ≤ M) (hk : KidsAt w0 B A 0 t.kids) (hw0 : CKeep B n₁ w0 W) (hsz : n₁ ≤ W.heap.size) (hBt : Blk W Bt 24 #[.int .i64 t.kind, .string t.text, .int .i64 t.at_, .int .i64 t.end_, .slice A t.kids.length c]) (h0 : J [] W) :
    CallsIn F n Tryz.prog 167 #[.func (.yield l) #[] #[], .pointer (some ⟨Bt, 0, none⟩)] W fun e W' => (∃ v, e = .returned v) ∧
      ((∃ ys : List (NAt w0 B M), ys.map (·.t) = nodesM t ∧ J ys W') ∨ (∃ pre : List (NAt w0 B M), pre.map (·.t) <+: nodesM t ∧ Jx pre W')) := by
  have hdd : ∀ k : Nat, (F.depth.isSome = true → 1 ≤ k) := fun k h => by rw [hd] at h; cases h
  have hp := visit_in F hd hf hro l B n₁ M (countM t) hB hM w0 J Jx hJ (fun m pre x W hj hl => yield_any hd m (hY pre x W hj hl)) M t A c (n - 1) [] W hm (Nat.le_refl _) hk hw0 hsz h0 (by simp)
  unfold nodeV at hp
  have c0 := hBt.cell 0
  have c1 := hBt.cell 1
  have c2 := hBt.cell 2
  have c3 := hBt.cell 3
  have c4 := hBt.cell 4
  have hlt := hBt.lt
  clear hY hJ hBt
  refine callsIn_of_wp Tryz.func167 rfl h1 ?_ hro
  simp only [Tryz.ntmps167, List.size_toArray, List.length_cons, List.length_nil, Nat.reduceAdd, Nat.reduceSub, Array.replicate_succ, Array.replicate_zero, List.push_toArray, List.append_toArray, List.nil_append, List.cons_append]
  gi_wp2_with ((try refine ⟨hdd _, ?_⟩); gi_at_call 168; refine hp.mono ?_; clear hp; rintro e W1 (⟨rfl, q, h2, h3, h4⟩ | ⟨rfl, q, h2, h3⟩))
  · go_end0
    exact ⟨⟨_, rfl⟩, .inl ⟨q, h2, by simpa using h3⟩⟩
  · go_end0
    exact ⟨⟨_, rfl⟩, .inr ⟨q, h2, by simpa using h3⟩⟩

theorem blk_ownFrom {β : Type} (B g : Nat) (t : TypeId) (f : β → Array Value) : OwnFrom B (fun s W => Blk W g t (f s)) := fun s X Y row hs hg hr => Blk.grown hs hg (fun e => by
  obtain ⟨_, o, ho, hc⟩ := hr g e.symm
  rw [show X.heap[g]? = _ from hs] at ho
  cases ho
  cases hc)

/-- What nodes(n) hands back, in order: all nodes; or some first ones. -/
theorem nodes_stops (F : Fence) (hd : F.depth = none) (n : Nat) (h1 : F.fn 167) (hf : F.fn 168) (hro : F.round = none) (Bt B n₁ M : Nat) (hB : B ≤ n₁) (hM : M ≤ 1000000000) (w0 w : World) (t : Tree) (A : Option Addr) (c : Nat)
    (hm : countM t ≤ M) (hk : KidsAt w0 B A 0 t.kids) (hw0 : CKeep B n₁ w0 w) (hsz : n₁ ≤ w.heap.size) (hBt : Blk w Bt 24 #[.int .i64 t.kind, .string t.text, .int .i64 t.at_, .int .i64 t.end_, .slice A t.kids.length c]) :
    SeqStopsK F n Tryz.prog 167 #[.pointer (some ⟨Bt, 0, none⟩)] (fun x : NAt w0 B M => #[nodeV x.t x.A x.c]) (CKeep B n₁) (fun ys => ys.map (·.t) = nodesM t) (fun pre => pre.map (·.t) <+: nodesM t) (countM t) w :=
  fun l J Jx W hW hJ _ hY h0 =>
    nodes1_in F hd h1 hf hro l Bt B n₁ M hB hM w0 n t A c J Jx (fun s X o hs => hJ s X _ none hs (World.grownBy_alloc X o none) (fun r e => by cases e)) hY W hm hk (hw0.trans (CKeep.of_below hW rfl)) (Nat.le_trans hsz hW.size) (hBt.below hW hBt.lt) h0

set_option maxHeartbeats 1000000 in
/-- nodes(n): the node is boxed; the function value captures the box. -/
theorem nodes_any (t : Tree) (A : Option Addr) (c : Nat) (w : World) :
    Calls Tryz.prog 98 #[nodeV t A c] w fun e w' => e = .returned (.func (.func 167) #[] #[.pointer (some ⟨w.heap.size, 0, none⟩)]) ∧ w' = w.alloc (.cells #[.int .i64 t.kind, .string t.text, .int .i64 t.at_, .int .i64 t.end_, .slice A t.kids.length c] 24) := by
  unfold nodeV
  go_enter Tryz.func98, Tryz.ntmps98
  go_wp2_with fail
  go_ret
  exact ⟨rfl, rfl⟩

set_option maxRecDepth 100000 in
set_option maxHeartbeats 2000000 in
theorem count_any (t : Tree) (A : Option Addr) (c : Nat) (w : World) (hm : countM t ≤ 1000000000) (hk : KidsAt w w.heap.size A 0 t.kids) :
    Calls Tryz.prog 56 #[nodeV t A c] w fun e w' => e = .returned (.int .i64 (countM t : Int)) ∧ Below w.heap.size w w' := by
  refine (callsIn_wide (n := 6)).1 ?_
  have hnodes := fun w' => nodes_any t A c w'
  unfold nodeV at hnodes ⊢
  refine callsIn_of_wp_marks Tryz.func56 rfl trivial ?_ rfl
  simp only [Tryz.ntmps56, List.size_toArray, List.length_cons, List.length_nil, Nat.reduceAdd, Nat.reduceSub, Array.replicate_succ, Array.replicate_zero, List.push_toArray, List.append_toArray, List.nil_append, List.cons_append]
  gi_wp2_with (refine ⟨trivial, ?_⟩; gi_at_call 98; refine (callsIn_wide.2 (hnodes _)).mono ?_; rintro e w' ⟨rfl, rfl⟩)
  have hS : Blk (w.alloc (.cells #[.int .i64 t.kind, .string t.text, .int .i64 t.at_, .int .i64 t.end_, .slice A t.kids.length c] 24)) w.heap.size 24 #[.int .i64 t.kind, .string t.text, .int .i64 t.at_, .int .i64 t.end_, .slice A t.kids.length c] := Blk.new w _ _
  generalize hW1 : w.alloc (.cells #[.int .i64 t.kind, .string t.text, .int .i64 t.at_, .int .i64 t.end_, .slice A t.kids.length c] 24) = W1 at hS
  have hb1 : Below w.heap.size w W1 := by rw [← hW1]; exact below_alloc _ _
  have hs1 : W1.heap.size = w.heap.size + 1 := by rw [← hW1]; simp
  have hS2 : Blk (W1.alloc (.cells #[.int .i64 0] 3)) (w.heap.size + 1) 3 #[.int .i64 0] := by rw [← hs1]; exact Blk.new W1 _ _
  generalize hW2 : W1.alloc (.cells #[.int .i64 0] 3) = W2 at hS2
  have hb2 : Below W1.heap.size W1 W2 := by rw [← hW2]; exact below_alloc _ _
  have hs2 : W2.heap.size = w.heap.size + 2 := by rw [← hW2]; simp [hs1]
  have hN3 : Blk (W2.alloc (.cells #[.int .i64 t.kind, .string t.text, .int .i64 t.at_, .int .i64 t.end_, .slice A t.kids.length c] 24)) (w.heap.size + 1 + 1) 24 #[.int .i64 t.kind, .string t.text, .int .i64 t.at_, .int .i64 t.end_, .slice A t.kids.length c] := by
    rw [show w.heap.size + 1 + 1 = W2.heap.size by omega]; exact Blk.new W2 _ _
  generalize hW3 : W2.alloc (.cells #[.int .i64 t.kind, .string t.text, .int .i64 t.at_, .int .i64 t.end_, .slice A t.kids.length c] 24) = W3 at hN3 ⊢
  have hb3 : Below W2.heap.size W2 W3 := by rw [← hW3]; exact below_alloc _ _
  have hs3 : W3.heap.size = w.heap.size + 3 := by rw [← hW3]; simp [hs2]
  have hS3 := hS2.below hb3 hS2.lt
  have hb03 : Below w.heap.size w W3 := (hb1.trans (hb2.mono (by omega))).trans (hb3.mono (by omega))
  have hk3 := KidsAt.below hb03 (Nat.le_refl _) _ _ _ hk
  clear hW1 hW2 hW3 hS2 hS hb1 hb2 hb3 hs1 hs2 hk
  have h1 : 1 ≤ 6 := by omega
  refine wpIn_rangeFunc_ownF rfl h1 (gf := 167) (lb := #[.pointer (some ⟨w.heap.size + 1 + 1, 0, none⟩)]) rfl trivial (enters_of Tryz.func167 (by kernel_rfl) rfl)
    (nodes_stops Fence.wide rfl (6 - 1) trivial trivial rfl (w.heap.size + 1 + 1) w.heap.size (w.heap.size + 3) 1000000000 (by omega) (Nat.le_refl _) W3 W3 t A c hm hk3 (CKeep.refl _ _ _) (by omega) hN3) CKeep.trans (fun W l o o' _ h hc _ => CKeep.putObj o' h hc) (Below.refl _ _) (fun _ => rfl)
    (fun pre W => Blk W (w.heap.size + 1) 3 #[.int .i64 (pre.length : Int)] ∧ Below w.heap.size w W)
    (fun _ _ _ => False)
    (OwnFrom.and (blk_ownFrom _ _ _ _) (ownFrom_below (Nat.le_refl _) (by omega)))
    (fun _ _ _ _ _ hs _ _ => hs)
    ⟨hS3, hb03⟩
    (fun x => { tmps := #[.agg #[.int .i64 t.kind, .string t.text, .int .i64 t.at_, .int .i64 t.end_, .slice A t.kids.length c], .pointer (some ⟨w.heap.size, 0, none⟩), .int .i64 0, .pointer (some ⟨w.heap.size + 1, 0, none⟩), .agg #[.int .i64 t.kind, .string t.text, .int .i64 t.at_, .int .i64 t.end_, .slice A t.kids.length c],
      .func (.func 167) #[] #[.pointer (some ⟨w.heap.size + 1 + 1, 0, none⟩)], nodeV x.t x.A x.c, undef, undef, undef], defers := [] }) ?assign ?body ?done ?stop
  case assign =>
    intro l x W K hK
    gi_wp2
    simpa using hK
  case body =>
    rintro l pre x W ⟨hc, hf⟩ hl
    have c0 := hc.cell 0
    have f0 := hc.frozen 0
    have hlt := hc.lt
    have hwr : IntKind.i64.wrap ((pre.length : Int) + 1) = (pre.length : Int) + 1 := IntWalk.i64_in _ (by omega)
    have HS3 := Lib.hid hs3
    have HC := Lib.hid hc
    have HF := Lib.hid hf
    clear hk3 hS3 hN3 hb03 hnodes hc hf hs3
    gi_wp2
    exact ⟨KeepsOthers.setCell _ _ _, CKeep.setCell _ _ (by show w.heap.size ≤ w.heap.size + 1; omega) (by show w.heap.size + 1 < w.heap.size + 3; omega), by simpa using HC.out.set_ 0 (.int .i64 ((pre.length : Int) + 1)), HF.out.setCell (p := ⟨w.heap.size + 1, 0, none⟩) (by show w.heap.size ≤ w.heap.size + 1; omega) _⟩
  case done =>
    rintro D ys W hD hys ⟨hc, hf⟩ hK
    have c0 := hc.cell 0
    have hys2 : ys.length = countM t := by rw [← nodesM_len, ← hys, List.length_map]
    have HK := Lib.hid hK
    have HF := Lib.hid hf
    have hD2 : w.heap.size ≤ D := by omega
    clear hk3 hS3 hN3 hb03 hnodes hc hf hs3 hK hys
    gi_wp2
    refine ⟨by simp, .inl ⟨_, _, rfl, run_takeDeferred HK.out, ?_⟩⟩
    refine ⟨_, results_tmp rfl _ _ _, ?_⟩
    exact ⟨rfl, HF.out.trans (belowK_b (w := w) (Nat.le_refl _) W D _ _ hD2 HK.out rfl rfl)⟩
  case stop =>
    rintro D c pre W _ _ h _
    exact h.elim

end Go.Proofs.YtfkdkbekmimhoaaGreatDoor
/- The reference's trees, walked: Small. -/
namespace Go.Proofs.YtfkdkbekmimhoaaGreatDoor
open Go.RowKit

theorem node_named (t : Tree) (A : Option Addr) (c : Nat) : ∃ (k : Int) (x : ByteArray) (a z : Int) (m : Nat), t.kind = k ∧ t.text = x ∧ t.at_ = a ∧ t.end_ = z ∧ t.kids.length = m ∧ nodeV t A c = .agg #[.int .i64 k, .string x, .int .i64 a, .int .i64 z, .slice A m c] := ⟨_, _, _, _, _, rfl, rfl, rfl, rfl, rfl, rfl⟩
theorem ValsAt.nth {w : World} {B : Nat} : ∀ {ts : List Tree} {vs : List (List Value)}, ValsAt w B ts vs → ∀ (i : Nat) (t : Tree), ts[i]? = some t → ∃ v, vs[i]? = some v ∧ TreeAt w B t v
  | [], _, _, i, t, h => by simp at h
  | t :: ts, _, h, 0, u, hu => by
    obtain ⟨v, vs, rfl, h3, h4⟩ := h
    simp at hu
    subst hu
    exact ⟨v, rfl, h3⟩
  | t :: ts, _, h, i + 1, u, hu => by
    obtain ⟨v, vs, rfl, h3, h4⟩ := h
    obtain ⟨v2, h5, h6⟩ := ValsAt.nth h4 i u (by simpa using hu)
    exact ⟨v2, by simpa using h5, h6⟩

theorem ValsAt.lens5 {w : World} {B : Nat} : ∀ {ts : List Tree} {vs : List (List Value)}, ValsAt w B ts vs → ∀ v ∈ vs, v.length = 5
  | [], vs, h, v, hv => by
    have : vs = [] := h
    subst this
    cases hv
  | t :: ts, _, h, v, hv => by
    obtain ⟨v1, vs, rfl, h3, h4⟩ := h
    rcases List.mem_cons.1 hv with rfl | hv
    · obtain ⟨A, c, rfl, -⟩ := h3.five
      rfl
    · exact ValsAt.lens5 h4 v hv

/-- The cells of a node in a row of nodes. -/
theorem nodes_cells {w w0 : World} {base B N c : Nat} {A : Option Addr} {ts : List Tree} {vals : List (List Value)} (hO : OwnS w base 24 5 (.slice A N c) N (List.flatten vals)) (hV : ValsAt w0 B ts vals) (hn : ts.length = N) (i : Nat) (t : Tree) (hi : ts[i]? = some t) :
    ∃ b off Ak ck, A = some ⟨b, off, none⟩ ∧ b < w.heap.size ∧ base ≤ b ∧ (∀ j v, [Value.int .i64 t.kind, .string t.text, .int .i64 t.at_, .int .i64 t.end_, .slice Ak t.kids.length ck][j]? = some v → w.cell? ⟨b, off + i * 5 + j, none⟩ = some v) ∧ KidsAt w0 B Ak 0 t.kids := by
  obtain ⟨v, hv, hT⟩ := hV.nth i t hi
  obtain ⟨Ak, ck, rfl, hk⟩ := hT.five
  have hlt := (List.getElem?_eq_some_iff.1 hi).1
  obtain ⟨g, off, cap, hv', -, -, hbg, hlt', hc⟩ := hO.form (by omega)
  cases hv'
  refine ⟨g, off, Ak, ck, rfl, hlt', hbg, fun j u hj => ?_, hk⟩
  rw [Nat.add_assoc]
  exact hc _ _ (flatten_get vals (hV.lens5) i j _ u hv hj)

def smallM (t : Tree) (m : Nat) : Bool := (nodesM t).all (fun u => decide (u.text.size ≤ 60)) && decide (countM t ≤ m)

theorem all_drop {p : Tree → Bool} {ts : List Tree} {i : Nat} {u : Tree} (hu : ts[i]? = some u) : (ts.drop i).all p = (p u && (ts.drop (i + 1)).all p) := by
  obtain ⟨hlt, he⟩ := List.getElem?_eq_some_iff.1 hu
  rw [List.drop_eq_getElem_cons hlt, he, List.all_cons]

set_option maxHeartbeats 1000000 in
theorem Small_any (t : Tree) (A : Option Addr) (c m : Nat) (w : World) (hN : countM t ≤ 1000000) (hcap : t.kids.length ≤ c) (hk : KidsAt w w.heap.size A 0 t.kids) :
    Calls Tryz.prog 22 #[nodeV t A c, .int .i64 (m : Int)] w fun e w' => e = .returned (.bool (smallM t m)) ∧ Below w.heap.size w w' := by
  obtain ⟨k0, x0, a0, z0, n0, -, -, -, -, -, hnv⟩ := node_named t A c
  obtain ⟨W1, hW1⟩ : ∃ W1, w.alloc (.cells #[.int .i64 k0, .string x0, .int .i64 a0, .int .i64 z0, .slice A n0 c] 24) = W1 := ⟨_, rfl⟩
  have hb1 : Below w.heap.size w W1 := by rw [← hW1]; exact below_alloc _ _
  have hT1 : Blk W1 w.heap.size 24 #[.int .i64 k0, .string x0, .int .i64 a0, .int .i64 z0, .slice A n0 c] := by rw [← hW1]; exact Blk.new w _ _
  have hnd := nodes3_any (countM t) t A c W1 W1.heap.size (Nat.le_refl _) (Nat.le_refl _) (by omega) hcap (KidsAt.mono hb1.size _ _ _ (KidsAt.below hb1 (Nat.le_refl _) _ _ _ hk))
  have hlen := nodesM_len t
  obtain ⟨R, hR⟩ : ∃ b, smallM t m = b := ⟨_, rfl⟩
  rw [hR]
  unfold smallM at hR
  rw [← hlen] at hR hN
  obtain ⟨ts, hts⟩ : ∃ z, nodesM t = z := ⟨_, rfl⟩
  rw [hts] at hnd hR hN
  rw [hnv] at hnd ⊢
  obtain ⟨N, hNN⟩ : ∃ z, ts.length = z := ⟨_, rfl⟩
  rw [hNN] at hR hN
  have HND := Lib.hid hnd
  have HR := Lib.hid hR
  have HNN := Lib.hid hNN
  have HB1 := Lib.hid hb1
  obtain ⟨⟨t0, t1, t2, t3, t4⟩, -⟩ := hT1.five
  have lt' := hT1.lt
  clear hb1 hT1 hnd hlen hts hnv hcap hk hNN hR
  go_enter Tryz.func22, Tryz.ntmps22
  go_wp2_with (rw [hW1])
  clear t0 t1 t2 t3 t4 lt' hW1
  refine HND.out.mono ?_
  rintro e2 w2 ⟨v2, n2, vals, rfl, hn2, hO2, hV2, hb2⟩
  rw [HNN.out] at hn2
  subst hn2
  obtain ⟨A2, c2, rfl, -, -⟩ := hO2.shape
  have HB2 : Hid (Below w.heap.size w w2) := Lib.hid (HB1.out.trans (hb2.mono HB1.out.size))
  have HO2 := Lib.hid hO2
  have HV2 := Lib.hid hV2
  clear hO2 hV2 hb2 HND
  go_wp2_with fail
  go_loopg [6] n2 (fun gk s6 wr => ∃ (i : Nat), s6 = .int .i64 (i : Int) ∧ i + gk = n2 ∧ Hid (Below w2.heap.size w2 wr ∧ ((ts.drop i).all (fun u => decide (u.text.size ≤ 60)) && decide (n2 ≤ m)) = R))
  case atStart => exact ⟨0, rfl, by omega, Lib.hid ⟨Below.refl _ _, HR.out⟩⟩
  case round =>
    obtain ⟨i, rfl, hin, HI⟩ := hrel
    have hib : i ≤ n2 := by omega
    have HIN := Lib.hid hin
    clear hin
    by_cases hlt : i < n2
    · obtain ⟨tn, htn⟩ : ∃ z, ts[i]? = some z := ⟨_, List.getElem?_eq_getElem (by rw [HNN.out]; exact hlt)⟩
      obtain ⟨hB3, hgl⟩ := HI.out
      obtain ⟨b, off, Ak, ck, hA, hbl, -, hcs, -⟩ := nodes_cells (HO2.out.below hB3 (fun g hg => (HO2.out.lt g hg).2)) HV2.out HNN.out i tn htn
      subst hA
      rw [all_drop htn] at hgl
      obtain ⟨x, hx⟩ : ∃ z, tn.text = z := ⟨_, rfl⟩
      rw [hx] at hgl
      have z1 : wr.cell? ⟨b, off + i * 5 + 1, none⟩ = some (.string x) := by rw [← hx]; exact hcs 1 _ rfl
      have hini : (i : Int) < (n2 : Int) := by omega
      have hi00 : ¬ ((i : Int) < 0) := by omega
      have hw2 : IntKind.i64.wrap ((i : Int) + 1) = (i : Int) + 1 := IntWalk.i64_in _ (by omega)
      clear htn hcs hx HI
      by_cases h60 : 60 < x.size
      · have h60i : (60 : Int) < (x.size : Int) := by omega
        have hrf : R = false := by rw [← hgl, decide_eq_false (p := x.size ≤ 60) (by omega)]; rfl
        subst hrf
        clear hgl
        go_wp2_with fail
        go_ret
        exact ⟨rfl, HB2.out.trans (hB3.mono HB2.out.size)⟩
      · have h60i : ¬ (60 : Int) < (x.size : Int) := by omega
        rw [decide_eq_true (p := x.size ≤ 60) (by omega), Bool.true_and] at hgl
        have HGL := Lib.hid hgl
        clear hgl
        go_wp2_with fail
        go_roundg (gk - 1)
        case measure => have := HIN.out; omega
        case rel => exact ⟨i + 1, by simp, by have := HIN.out; omega, Lib.hid ⟨hB3, HGL.out⟩⟩
    · have hge : i = n2 := by omega
      subst hge
      obtain ⟨hB3, hgl⟩ := HI.out
      rw [List.drop_of_length_le (by rw [HNN.out]; exact Nat.le_refl _), List.all_nil, Bool.true_and] at hgl
      have HGL := Lib.hid hgl
      clear hgl HI
      go_wp2_with fail
      go_ret
      exact ⟨ret_bool (by rw [← HGL.out]; try simp), HB2.out.trans (hB3.mono HB2.out.size)⟩

end Go.Proofs.YtfkdkbekmimhoaaGreatDoor
/- The reference's Equal, walked. -/
namespace Go.Proofs.YtfkdkbekmimhoaaGreatDoor
open Go.RowKit

theorem wpHG_call {P : Program} {ops : Array Oper} {Q : Exit → Act → World → Prop} {S : World → Prop} {ex : List Nat} {k : Nat} {ss : List Bool} {o : Oper} {rest : List Oper} {a : Act} {w : World} {f : FuncId} {args : Array Value} (hg : Region.wanted o (yielded ops a.tmps) = true)
    (hr : (execOp a.eval o).run P w = .ok (.enter f args) w) (h : Calls P f args w fun e w' => ∃ v, e = .returned v ∧ (ex.contains k = false → S w') ∧ wpHG P ops Q S ex (k + 1) ss rest (a.put o.dst v) w') : wpHG P ops Q S ex k (false :: ss) (o :: rest) a w :=
  ⟨hg, by unfold Oper.wp; rw [hr]; exact h.mono (fun e w' ⟨v, he, h1, h2⟩ => by subst he; exact ⟨h1, h2⟩)⟩
/-- A Bool that says so. -/
def BoolL (P : Bool → Prop) (w : World) (e : Ending) (w' : World) : Prop := ∃ b, e = .returned (.bool b) ∧ P b ∧ Below w.heap.size w w'

set_option maxHeartbeats 4000000 in
set_option maxRecDepth 100000 in
theorem equal_any : ∀ (m : Nat) (t1 t2 : Tree) (A1 : Option Addr) (c1 : Nat) (A2 : Option Addr) (c2 : Nat) (w : World), countM t1 ≤ m → m ≤ 1000000 → t1 = t2 → KidsAt w w.heap.size A1 0 t1.kids → KidsAt w w.heap.size A2 0 t2.kids →
    Calls Tryz.prog 16 #[nodeV t1 A1 c1, nodeV t2 A2 c2] w (BoolL (fun b => b = true) w) := by
  intro m
  induction m with
  | zero =>
    intro t1 t2 A1 c1 A2 c2 w h
    have := countM_pos t1
    omega
  | succ m ih =>
    intro t1 t2 A1 c1 A2 c2 w hm hbig heq hk1 hk2
    obtain ⟨k1, x1, a1, e1, ks1⟩ := t1
    obtain ⟨k2, x2, a2, e2, ks2⟩ := t2
    have hcn : countsM ks1 ≤ m := by rw [countM] at hm; omega
    have hkl := counts_len ks1
    obtain ⟨n1, hn1⟩ : ∃ q, ks1.length = q := ⟨_, rfl⟩
    obtain ⟨n2, hn2⟩ : ∃ q, ks2.length = q := ⟨_, rfl⟩
    have hv1 : nodeV (.node k1 x1 a1 e1 ks1) A1 c1 = .agg #[.int .i64 k1, .string x1, .int .i64 a1, .int .i64 e1, .slice A1 n1 c1] := by rw [← hn1]; rfl
    have hv2 : nodeV (.node k2 x2 a2 e2 ks2) A2 c2 = .agg #[.int .i64 k2, .string x2, .int .i64 a2, .int .i64 e2, .slice A2 n2 c2] := by rw [← hn2]; rfl
    rw [hv1, hv2]
    have hN : n1 ≤ 1000000 := by omega
    have HK1 : Hid (KidsAt w w.heap.size A1 0 ks1) := Lib.hid hk1
    have HK2 : Hid (KidsAt w w.heap.size A2 0 ks2) := Lib.hid hk2
    have HIH := Lib.hid ih
    have HM : Hid (countsM ks1 ≤ m ∧ m ≤ 1000000) := Lib.hid ⟨hcn, by omega⟩
    have HN1 := Lib.hid hn1
    have HN2 := Lib.hid hn2
    cases heq
    have hee : n1 = n2 := hn1.symm.trans hn2
    subst hee
    clear hk1 hk2 ih hcn hm hn1 hn2 hv1 hv2 hkl hbig 
    go_enter Tryz.func16, Tryz.ntmps16
    go_wp2_with fail
    obtain ⟨W2, hW2⟩ : ∃ W, (w.alloc (.cells #[.int .i64 k1, .string x1, .int .i64 a1, .int .i64 e1, .slice A1 n1 c1] 24)).alloc (.cells #[.int .i64 k1, .string x1, .int .i64 a1, .int .i64 e1, .slice A2 n1 c2] 24) = W := ⟨_, rfl⟩
    have hb2 : Below w.heap.size w W2 := by rw [← hW2]; exact ((Below.refl _ w).alloc (Nat.le_refl _) _).alloc (by simp) _
    have hT1 : Blk W2 w.heap.size 24 #[.int .i64 k1, .string x1, .int .i64 a1, .int .i64 e1, .slice A1 n1 c1] := by rw [← hW2]; exact (Blk.new w _ _).alloc _
    have hT2 : Blk W2 (w.heap.size + 1) 24 #[.int .i64 k1, .string x1, .int .i64 a1, .int .i64 e1, .slice A2 n1 c2] := by
      rw [← hW2]
      have := Blk.new (w.alloc (.cells #[.int .i64 k1, .string x1, .int .i64 a1, .int .i64 e1, .slice A1 n1 c1] 24)) 24 #[.int .i64 k1, .string x1, .int .i64 a1, .int .i64 e1, .slice A2 n1 c2]
      simpa using this
    have HB2 := Lib.hid hb2
    have HT1 := Lib.hid hT1
    have HT2 := Lib.hid hT2
    have HKA := Lib.hid (KidsAt.below hb2 (Nat.le_refl _) _ _ _ HK1.out)
    have HKB := Lib.hid (KidsAt.below hb2 (Nat.le_refl _) _ _ _ HK2.out)
    have HSZ : Hid (w.heap.size + 1 < W2.heap.size) := Lib.hid hT2.lt
    clear hb2 hT1 hT2
    rw [hW2]
    clear hW2
    go_loopg [5] n1 (fun gk s wr => ∃ i : Nat, i + gk = n1 ∧ s = .int .i64 (i : Int) ∧ Below W2.heap.size W2 wr)
    case atStart => exact ⟨0, by omega, rfl, Below.refl _ _⟩
    case round =>
      obtain ⟨i, hi, rfl, hB⟩ := hrel
      have hNa := HT1.out.below hB HT1.out.lt
      have hNb := HT2.out.below hB HT2.out.lt
      have a4 : wr.cell? ⟨w.heap.size, 4, none⟩ = some (.slice A1 n1 c1) := hNa.cell 4
      have b4 : wr.cell? ⟨w.heap.size + 1, 4, none⟩ = some (.slice A2 n1 c2) := hNb.cell 4
      have la := hNa.lt
      have lb := hNb.lt
      have HB := Lib.hid hB
      have HI := Lib.hid hi
      have hi' : i ≤ n1 := by omega
      clear hB hi hNa hNb
      by_cases hlt : i < n1
      · have hlt' : (i : Int) < (n1 : Int) := by omega
        obtain ⟨u1, hu1⟩ : ∃ u, ks1[i]? = some u := ⟨_, List.getElem?_eq_getElem (by rw [HN1.out]; exact hlt)⟩
        obtain ⟨u2, hu2⟩ : ∃ u, ks1[i]? = some u := ⟨_, List.getElem?_eq_getElem (by rw [HN2.out]; exact hlt)⟩
        obtain ⟨v1, ⟨g1, o1, hA1, hg1, hc1⟩, hT1⟩ := HKA.out.get i u1 hu1
        obtain ⟨v2, ⟨g2, o2, hA2, hg2, hc2⟩, hT2⟩ := HKB.out.get i u2 hu2
        obtain ⟨B1, d1, hw1, hq1⟩ := hT1.five
        obtain ⟨B2, d2, hw2, hq2⟩ := hT2.five
        subst hA1 hA2 hw1 hw2
        have hbw : Below w.heap.size W2 wr := HB.out.mono (by have := HSZ.out; omega)
        have hg1' : g1 < W2.heap.size := by have := HSZ.out; omega
        have hg2' : g2 < W2.heap.size := by have := HSZ.out; omega
        have hcell : ∀ W, Below wr.heap.size wr W → W.cell? ⟨w.heap.size, 4, none⟩ = some (.slice (some ⟨g1, o1, none⟩) n1 c1) ∧ W.cell? ⟨w.heap.size + 1, 4, none⟩ = some (.slice (some ⟨g2, o2, none⟩) n1 c2) ∧ W.cell? ⟨g1, o1 + i * 5, none⟩ = some (.int .i64 u1.kind) ∧ W.cell? ⟨g1, o1 + i * 5 + 1, none⟩ = some (.string u1.text) ∧ W.cell? ⟨g1, o1 + i * 5 + 2, none⟩ = some (.int .i64 u1.at_) ∧ W.cell? ⟨g1, o1 + i * 5 + 3, none⟩ = some (.int .i64 u1.end_) ∧ W.cell? ⟨g1, o1 + i * 5 + 4, none⟩ = some (.slice B1 u1.kids.length d1) ∧ W.cell? ⟨g2, o2 + i * 5, none⟩ = some (.int .i64 u2.kind) ∧ W.cell? ⟨g2, o2 + i * 5 + 1, none⟩ = some (.string u2.text) ∧ W.cell? ⟨g2, o2 + i * 5 + 2, none⟩ = some (.int .i64 u2.at_) ∧ W.cell? ⟨g2, o2 + i * 5 + 3, none⟩ = some (.int .i64 u2.end_) ∧ W.cell? ⟨g2, o2 + i * 5 + 4, none⟩ = some (.slice B2 u2.kids.length d2) := fun W hb => by
          have hz := HB.out.size
          have e1 := fun j v (hj : _ = some v) => (hb.cell (p := ⟨g1, _, none⟩) (Nat.lt_of_lt_of_le hg1' hz)).trans ((HB.out.cell (p := ⟨g1, _, none⟩) hg1').trans (hc1 j v hj))
          have e2 := fun j v (hj : _ = some v) => (hb.cell (p := ⟨g2, _, none⟩) (Nat.lt_of_lt_of_le hg2' hz)).trans ((HB.out.cell (p := ⟨g2, _, none⟩) hg2').trans (hc2 j v hj))
          exact ⟨(hb.cell (p := ⟨w.heap.size, _, none⟩) la).trans a4, (hb.cell (p := ⟨w.heap.size + 1, _, none⟩) lb).trans b4, by simpa using e1 0 _ rfl, by simpa using e1 1 _ rfl, by simpa using e1 2 _ rfl, by simpa using e1 3 _ rfl, by simpa using e1 4 _ rfl, by simpa using e2 0 _ rfl, by simpa using e2 1 _ rfl, by simpa using e2 2 _ rfl, by simpa using e2 3 _ rfl, by simpa using e2 4 _ rfl⟩
        have htk := countsM_take ks1 i u1 hu1
        have hle := countsM_le ks1 (i + 1)
        have hcall := fun W (hb : Below wr.heap.size wr W) => HIH.out u1 u2 B1 d1 B2 d2 W (by have := HM.out; omega) HM.out.2 (Option.some.inj (hu1.symm.trans hu2)) (KidsAt.mono (B := w.heap.size) (by have := HSZ.out; have := HB.out.size; have := hb.size; omega) _ _ _ (KidsAt.below (HB.out.trans (hb.mono HB.out.size)) (by have := HSZ.out; omega) _ _ _ hq1)) (KidsAt.mono (B := w.heap.size) (by have := HSZ.out; have := HB.out.size; have := hb.size; omega) _ _ _ (KidsAt.below (HB.out.trans (hb.mono HB.out.size)) (by have := HSZ.out; omega) _ _ _ hq2))
        unfold nodeV at hcall
        have HC := Lib.hid hcall
        have HS := Lib.hid hcell
        have HU : Hid (ks1[i]? = some u1 ∧ ks1[i]? = some u2) := Lib.hid ⟨hu1, hu2⟩
        have hwr : IntKind.i64.wrap ((i : Int) + 1) = (i : Int) + 1 := IntWalk.i64_in _ (by omega)
        obtain ⟨n3, hn3⟩ : ∃ q, u1.kids.length = q := ⟨_, rfl⟩
        obtain ⟨k3, hk3⟩ : ∃ q, u1.kind = q := ⟨_, rfl⟩
        obtain ⟨x3, hx3⟩ : ∃ q, u1.text = q := ⟨_, rfl⟩
        obtain ⟨a3, ha3⟩ : ∃ q, u1.at_ = q := ⟨_, rfl⟩
        obtain ⟨e3, he3⟩ : ∃ q, u1.end_ = q := ⟨_, rfl⟩
        obtain ⟨n4, hn4⟩ : ∃ q, u2.kids.length = q := ⟨_, rfl⟩
        obtain ⟨k4, hk4⟩ : ∃ q, u2.kind = q := ⟨_, rfl⟩
        obtain ⟨x4, hx4⟩ : ∃ q, u2.text = q := ⟨_, rfl⟩
        obtain ⟨a5, ha5⟩ : ∃ q, u2.at_ = q := ⟨_, rfl⟩
        obtain ⟨e5, he5⟩ : ∃ q, u2.end_ = q := ⟨_, rfl⟩
        rw [hn3, hk3, hx3, ha3, he3, hn4, hk4, hx4, ha5, he5] at HC HS
        clear hc1 hc2 hT1 hT2 hq1 hq2 htk hle hcall hu1 hu2 hn3 hk3 hx3 ha3 he3 hn4 hk4 hx4 ha5 he5 hcell hbw a4 b4
        have hd1 : Below wr.heap.size wr wr.drew := (Below.refl _ _).drew
        have hS0 := HS.out _ hd1
        have hS1 := HS.out _ (Below.refl _ wr)
        obtain ⟨a4, b4, -⟩ := hS1
        go_wp2_with fail
        refine wp_region_HG (fun W => W.cell? ⟨w.heap.size, 4, none⟩ = some (.slice (some ⟨g1, o1, none⟩) n1 c1) ∧ W.cell? ⟨w.heap.size + 1, 4, none⟩ = some (.slice (some ⟨g2, o2, none⟩) n1 c2) ∧ W.cell? ⟨g1, o1 + i * 5, none⟩ = some (.int .i64 k3) ∧ W.cell? ⟨g1, o1 + i * 5 + 1, none⟩ = some (.string x3) ∧ W.cell? ⟨g1, o1 + i * 5 + 2, none⟩ = some (.int .i64 a3) ∧ W.cell? ⟨g1, o1 + i * 5 + 3, none⟩ = some (.int .i64 e3) ∧ W.cell? ⟨g1, o1 + i * 5 + 4, none⟩ = some (.slice B1 n3 d1) ∧ W.cell? ⟨g2, o2 + i * 5, none⟩ = some (.int .i64 k4) ∧ W.cell? ⟨g2, o2 + i * 5 + 1, none⟩ = some (.string x4) ∧ W.cell? ⟨g2, o2 + i * 5 + 2, none⟩ = some (.int .i64 a5) ∧ W.cell? ⟨g2, o2 + i * 5 + 3, none⟩ = some (.int .i64 e5) ∧ W.cell? ⟨g2, o2 + i * 5 + 4, none⟩ = some (.slice B2 n4 d2)) [] [true, true, true, true, true, true, true, true, true, true, false, true] (by kernel_rfl) (by kernel_rfl) rfl (by kernel_rfl) ?_
        first | (refine wpHG_off (by rfl) hS0 ?_) | (refine wpHG_soft (by rfl) hS0 (by intro w' hSw; obtain ⟨hs1, hs2, hs3, hs4, hs5, hs6, hs7, hs8, hs9, hs10, hs11, hs12⟩ := hSw; go_simp; rfl) ?_)
        simp only [Act.put, List.setIfInBounds_toArray, List.set_cons_zero, List.set_cons_succ]
        first | (refine wpHG_off (by rfl) hS0 ?_) | (refine wpHG_soft (by rfl) hS0 (by intro w' hSw; obtain ⟨hs1, hs2, hs3, hs4, hs5, hs6, hs7, hs8, hs9, hs10, hs11, hs12⟩ := hSw; go_simp; rfl) ?_)
        simp only [Act.put, List.setIfInBounds_toArray, List.set_cons_zero, List.set_cons_succ]
        first | (refine wpHG_off (by rfl) hS0 ?_) | (refine wpHG_soft (by rfl) hS0 (by intro w' hSw; obtain ⟨hs1, hs2, hs3, hs4, hs5, hs6, hs7, hs8, hs9, hs10, hs11, hs12⟩ := hSw; go_simp; rfl) ?_)
        simp only [Act.put, List.setIfInBounds_toArray, List.set_cons_zero, List.set_cons_succ]
        first | (refine wpHG_off (by rfl) hS0 ?_) | (refine wpHG_soft (by rfl) hS0 (by intro w' hSw; obtain ⟨hs1, hs2, hs3, hs4, hs5, hs6, hs7, hs8, hs9, hs10, hs11, hs12⟩ := hSw; go_simp; rfl) ?_)
        simp only [Act.put, List.setIfInBounds_toArray, List.set_cons_zero, List.set_cons_succ]
        first | (refine wpHG_off (by rfl) hS0 ?_) | (refine wpHG_soft (by rfl) hS0 (by intro w' hSw; obtain ⟨hs1, hs2, hs3, hs4, hs5, hs6, hs7, hs8, hs9, hs10, hs11, hs12⟩ := hSw; go_simp; rfl) ?_)
        simp only [Act.put, List.setIfInBounds_toArray, List.set_cons_zero, List.set_cons_succ]
        first | (refine wpHG_off (by rfl) hS0 ?_) | (refine wpHG_soft (by rfl) hS0 (by intro w' hSw; obtain ⟨hs1, hs2, hs3, hs4, hs5, hs6, hs7, hs8, hs9, hs10, hs11, hs12⟩ := hSw; go_simp; rfl) ?_)
        simp only [Act.put, List.setIfInBounds_toArray, List.set_cons_zero, List.set_cons_succ]
        first | (refine wpHG_off (by rfl) hS0 ?_) | (refine wpHG_soft (by rfl) hS0 (by intro w' hSw; obtain ⟨hs1, hs2, hs3, hs4, hs5, hs6, hs7, hs8, hs9, hs10, hs11, hs12⟩ := hSw; go_simp; rfl) ?_)
        simp only [Act.put, List.setIfInBounds_toArray, List.set_cons_zero, List.set_cons_succ]
        first | (refine wpHG_off (by rfl) hS0 ?_) | (refine wpHG_soft (by rfl) hS0 (by intro w' hSw; obtain ⟨hs1, hs2, hs3, hs4, hs5, hs6, hs7, hs8, hs9, hs10, hs11, hs12⟩ := hSw; go_simp; rfl) ?_)
        simp only [Act.put, List.setIfInBounds_toArray, List.set_cons_zero, List.set_cons_succ]
        first | (refine wpHG_off (by rfl) hS0 ?_) | (refine wpHG_soft (by rfl) hS0 (by intro w' hSw; obtain ⟨hs1, hs2, hs3, hs4, hs5, hs6, hs7, hs8, hs9, hs10, hs11, hs12⟩ := hSw; go_simp; rfl) ?_)
        simp only [Act.put, List.setIfInBounds_toArray, List.set_cons_zero, List.set_cons_succ]
        first | (refine wpHG_off (by rfl) hS0 ?_) | (refine wpHG_soft (by rfl) hS0 (by intro w' hSw; obtain ⟨hs1, hs2, hs3, hs4, hs5, hs6, hs7, hs8, hs9, hs10, hs11, hs12⟩ := hSw; go_simp; rfl) ?_)
        simp only [Act.put, List.setIfInBounds_toArray, List.set_cons_zero, List.set_cons_succ]
        refine wpHG_call (by rfl) (by go_simp) ((HC.out _ hd1).mono ?_)
        rintro e4 w4 ⟨bb, rfl, hbb, hb4⟩
        have hb14 : Below wr.heap.size wr w4 := hd1.trans (hb4.mono hd1.size)
        have hS4 := HS.out _ hb14
        have HBB := Lib.hid hbb
        refine ⟨_, rfl, fun _ => hS4, ?_⟩
        simp only [Act.put, List.setIfInBounds_toArray, List.set_cons_zero, List.set_cons_succ]
        first | (refine wpHG_off (by rfl) hS4 ?_) | (refine wpHG_soft (by rfl) hS4 (by intro w' hSw; obtain ⟨hs1, hs2, hs3, hs4, hs5, hs6, hs7, hs8, hs9, hs10, hs11, hs12⟩ := hSw; go_simp; rfl) ?_)
        simp only [Act.put, List.setIfInBounds_toArray, List.set_cons_zero, List.set_cons_succ]
        refine wpHG_nil ?_
        have HBW := Lib.hid (HB.out.trans (hb14.mono HB.out.size))
        clear hb4 hb14 hS0 hS4 hd1 hbb a4 b4
        have hbt := HBB.out
        subst hbt
        go_wp2_with fail
        go_roundg (gk - 1)
        case measure => have := HI.out; omega
        case rel => exact ⟨i + 1, by have := HI.out; omega, by simp, HBW.out⟩
      · have hie : i = n1 := by omega
        subst hie
        have HBE := Lib.hid (HB2.out.trans (HB.out.mono (by have := HSZ.out; omega)))
        have HDN : Hid (BoolL (fun b => b = true) w (.returned (.bool true)) wr) := Lib.hid ⟨_, rfl, rfl, HBE.out⟩
        go_wp2_with fail
        go_ret
        exact HDN.out

end Go.Proofs.YtfkdkbekmimhoaaGreatDoor
/- tree.Number, walked at a path that leads somewhere. -/
namespace Go.Proofs.YtfkdkbekmimhoaaGreatDoor
open Go.RowKit

def NumRes (w : World) (e : Ending) (w' : World) : Prop := Below w.heap.size w w' ∧ ∃ m : Int, e = .returned (.tuple #[.int .i64 m, .bool true])

set_option maxHeartbeats 4000000 in
set_option maxRecDepth 100000 in
theorem Number_any (t y : Tree) (A : Option Addr) (c : Nat) (Ap : Option Addr) (np cp : Nat) (p : List Int) (w : World) (hk : KidsAt w w.heap.size A 0 t.kids) (hcap : t.kids.length ≤ c) (hcnt : countM t ≤ 1000000) (hp : IntsAt w w.heap.size Ap p) (hnp : p.length = np) (hnb : np ≤ 1000000) (hg : getM t p = some y) :
    Calls Tryz.prog 34 #[nodeV t A c, .slice Ap np cp] w (NumRes w) := by
  obtain ⟨k, hkk⟩ : ∃ q, t.kind = q := ⟨_, rfl⟩
  obtain ⟨x, hx⟩ : ∃ q, t.text = q := ⟨_, rfl⟩
  obtain ⟨a, ha⟩ : ∃ q, t.at_ = q := ⟨_, rfl⟩
  obtain ⟨z, hz⟩ : ∃ q, t.end_ = q := ⟨_, rfl⟩
  obtain ⟨n, hn⟩ : ∃ q, t.kids.length = q := ⟨_, rfl⟩
  have hnv : nodeV t A c = .agg #[.int .i64 k, .string x, .int .i64 a, .int .i64 z, .slice A n c] := by unfold nodeV; rw [hkk, hx, ha, hz, hn]
  rw [hnv]
  obtain ⟨W1, hW1⟩ : ∃ W1, w.alloc (.cells #[.int .i64 k, .string x, .int .i64 a, .int .i64 z, .slice A n c] 24) = W1 := ⟨_, rfl⟩
  have hR1 : Blk W1 w.heap.size 24 #[.int .i64 k, .string x, .int .i64 a, .int .i64 z, .slice A n c] := by rw [← hW1]; exact Blk.new w _ _
  have hb1 : Below w.heap.size w W1 := by rw [← hW1]; exact below_alloc _ _
  have HS : Hid (∃ (u : Tree) (Au : Option Addr) (cu : Nat), getM u (p.drop 0) = some y ∧ KidsAt w w.heap.size Au 0 u.kids ∧ u.kids.length ≤ cu ∧ countM u ≤ 1000000 ∧ Blk W1 w.heap.size 24 (cellsV u Au cu).toArray ∧ Below w.heap.size w W1) :=
    Lib.hid ⟨t, A, c, by simpa using hg, hk, hcap, hcnt, by unfold cellsV; rw [hkk, hx, ha, hz, hn]; exact hR1, hb1⟩
  have HP := Lib.hid hp
  have HNP := Lib.hid hnp
  clear hk hcap hR1 hb1 hkk hx ha hz hn hnv hp hnp hg hcnt
  go_enter Tryz.func34, Tryz.ntmps34
  go_wp2_with (rw [hW1])
  clear hW1
  go_loopg [6, 13] np (fun gk s6 s13 wr => ∃ (i : Nat) (m : Int), i + gk = np ∧ s13 = .int .i64 (i : Int) ∧ s6 = .int .i64 m ∧ Hid (∃ (u : Tree) (Au : Option Addr) (cu : Nat), getM u (p.drop i) = some y ∧ KidsAt w w.heap.size Au 0 u.kids ∧ u.kids.length ≤ cu ∧ countM u ≤ 1000000 ∧ Blk wr w.heap.size 24 (cellsV u Au cu).toArray ∧ Below w.heap.size w wr))
  case atStart => exact ⟨0, 0, by omega, rfl, rfl, HS⟩
  case round =>
    obtain ⟨i, m, hi, rfl, rfl, HS⟩ := hrel
    obtain ⟨u, Au, cu, hgm, hku, hcu, hcn, hRu, hB⟩ := HS.out
    have hin : i ≤ np := by omega
    have HI := Lib.hid hi
    obtain ⟨ku, hkku⟩ : ∃ q, u.kind = q := ⟨_, rfl⟩
    obtain ⟨xu, hxu⟩ : ∃ q, u.text = q := ⟨_, rfl⟩
    obtain ⟨au, hau⟩ : ∃ q, u.at_ = q := ⟨_, rfl⟩
    obtain ⟨zu, hzu⟩ : ∃ q, u.end_ = q := ⟨_, rfl⟩
    obtain ⟨nu, hnu⟩ : ∃ q, u.kids.length = q := ⟨_, rfl⟩
    have hRu : Blk wr w.heap.size 24 #[.int .i64 ku, .string xu, .int .i64 au, .int .i64 zu, .slice Au nu cu] := by
      have := hRu
      unfold cellsV at this
      rw [hkku, hxu, hau, hzu, hnu] at this
      exact this
    rw [hnu] at hcu
    obtain ⟨⟨t0, t1, t2, t3, t4⟩, u0, u1, u2, u3, u4⟩ := hRu.five
    have HGM := Lib.hid hgm
    have HKU := Lib.hid hku
    have HNU := Lib.hid hnu
    have HCN := Lib.hid hcn
    have HRU := Lib.hid hRu
    have HB := Lib.hid hB
    have hlw := hRu.lt
    clear hi hgm hku hkku hxu hau hzu hnu hRu HS hcn
    by_cases hlt : i < np
    · have hlt' : (i : Int) < (np : Int) := by omega
      obtain ⟨pi, hpi⟩ : ∃ v, p[i]? = some v := ⟨_, List.getElem?_eq_getElem (by rw [HNP.out]; exact hlt)⟩
      obtain ⟨bp, op, hAp, hbp, hcp⟩ := HP.out i pi hpi
      subst hAp
      have q0 : wr.cell? ⟨bp, op + i, none⟩ = some (.int .i64 pi) := (hB.cell (p := ⟨bp, _, none⟩) hbp).trans hcp
      have hdr : p.drop i = pi :: p.drop (i + 1) := by
        obtain ⟨hl, he⟩ := List.getElem?_eq_some_iff.1 hpi
        rw [List.drop_eq_getElem_cons hl, he]
      have hgm := HGM.out
      rw [hdr, getM] at hgm
      have hp0 : ¬ pi < 0 := fun h => by rw [if_pos h] at hgm; cases hgm
      rw [if_neg hp0] at hgm
      obtain ⟨j, rfl⟩ : ∃ j : Nat, pi = (j : Int) := ⟨pi.toNat, by omega⟩
      rw [Int.toNat_natCast] at hgm
      obtain ⟨v, hv, hgv⟩ : ∃ v, u.kids[j]? = some v ∧ getM v (p.drop (i + 1)) = some y := by
        cases hv : u.kids[j]? with
        | none => rw [hv] at hgm; cases hgm
        | some v => rw [hv] at hgm; exact ⟨v, rfl, hgm⟩
      have hj : j < nu := by rw [← HNU.out]; exact (List.getElem?_eq_some_iff.1 hv).1
      have hj1 : (j : Int) < (nu : Int) := by omega
      have hj2 : ¬ (j : Int) < 0 := by omega
      have hj3 : ¬ (nu : Int) ≤ (j : Int) := by omega
      have hj4 : j ≤ cu := by omega
      have hj5 : (j : Int) ≤ (cu : Int) := by omega
      have hnub : nu ≤ 1000000 := by
        have h1 := counts_len u.kids
        have h2 := countM_eq u
        have h3 := HCN.out
        have h4 := HNU.out
        omega
      have HGV := Lib.hid (And.intro hv hgv)
      clear hpi hcp hdr hB hgm hv hgv
      go_wp2_with fail
      obtain ⟨wo, hwo⟩ : ∃ wo : World, wo = wr := ⟨_, rfl⟩
      subst hwo
      obtain ⟨gko, hgko⟩ : ∃ g : Nat, g = gk := ⟨_, rfl⟩
      subst hgko
      obtain ⟨m1, hm1⟩ : ∃ q, wrap64 (m + 1) = q := ⟨_, rfl⟩
      rw [hm1]
      clear hm1
      go_loopg [6, 33] j (fun gk s6 s33 wr => ∃ (q : Nat) (m2 : Int), q + gk = j ∧ s6 = .int .i64 m2 ∧ s33 = .int .i64 (q : Int) ∧ Hid (Blk wr w.heap.size 24 #[.int .i64 ku, .string xu, .int .i64 au, .int .i64 zu, .slice Au nu cu] ∧ Below w.heap.size w wr))
      case atStart => exact ⟨0, m1, by omega, rfl, rfl, Lib.hid ⟨HRU.out, HB.out⟩⟩
      case round =>
        obtain ⟨q, m2, hq, rfl, rfl, HS⟩ := hrel
        have hqn : q ≤ j := by omega
        have HQ := Lib.hid hq
        clear hq t0 t1 t2 t3 t4 u0 u1 u2 u3 u4 q0 hlw
        obtain ⟨hRq, hBq⟩ := HS.out
        obtain ⟨⟨t0, t1, t2, t3, t4⟩, u0, u1, u2, u3, u4⟩ := hRq.five
        have hlw := hRq.lt
        by_cases hltq : q < j
        · have hltq' : (q : Int) < (j : Int) := by omega
          obtain ⟨e, he⟩ : ∃ e, u.kids[q]? = some e := ⟨_, List.getElem?_eq_getElem (by rw [HNU.out]; omega)⟩
          obtain ⟨vals, ⟨b, off, hA, hbl, hcs⟩, hT⟩ := HKU.out.get q e he
          obtain ⟨A', c', hvals, hK'⟩ := hT.five
          subst hA
          subst hvals
          obtain ⟨W3, hW3⟩ : ∃ W3, wr.alloc (.cells #[.int .i64 0, .string ⟨#[]⟩, .int .i64 0, .int .i64 0, .slice none 0 0] 24) = W3 := ⟨_, rfl⟩
          have hR3 : Blk W3 wr.heap.size 24 #[.int .i64 0, .string ⟨#[]⟩, .int .i64 0, .int .i64 0, .slice none 0 0] := by rw [← hW3]; exact Blk.new wr _ _
          have hb3 : Below w.heap.size w W3 := by rw [← hW3]; exact hBq.alloc (by omega) _
          have hRq3 : Blk W3 w.heap.size 24 #[.int .i64 ku, .string xu, .int .i64 au, .int .i64 zu, .slice (some ⟨b, off, none⟩) nu cu] := by rw [← hW3]; exact hRq.alloc _
          obtain ⟨W4, hW4, hR4, hf4, hB4⟩ := stored5 (a := .int .i64 e.kind) (b := .string e.text) (c := .int .i64 e.at_) (d := .int .i64 e.end_) (e := .slice A' e.kids.length c') hR3
          have hb4 := hB4 _ _ hb3 (by omega)
          have hRq4 := hRq3.keep (hf4 _ (by omega))
          have hce : countM e ≤ 1000000 := by
            have h1 := countsM_mem he
            have h2 := countM_eq u
            have h3 := HCN.out
            omega
          have hcall := count_any e A' c' W4 (by omega) (KidsAt.mono hb4.size _ _ _ (KidsAt.below hb4 (Nat.le_refl _) _ _ _ hK'))
          unfold nodeV at hcall
          have r0 : wr.cell? ⟨b, off + q * 5, none⟩ = some (.int .i64 e.kind) := (hBq.cell (p := ⟨b, _, none⟩) hbl).trans (by simpa using hcs 0 _ rfl)
          have r1 : wr.cell? ⟨b, off + q * 5 + 1, none⟩ = some (.string e.text) := (hBq.cell (p := ⟨b, _, none⟩) hbl).trans (by simpa using hcs 1 _ rfl)
          have r2 : wr.cell? ⟨b, off + q * 5 + 2, none⟩ = some (.int .i64 e.at_) := (hBq.cell (p := ⟨b, _, none⟩) hbl).trans (by simpa using hcs 2 _ rfl)
          have r3 : wr.cell? ⟨b, off + q * 5 + 3, none⟩ = some (.int .i64 e.end_) := (hBq.cell (p := ⟨b, _, none⟩) hbl).trans (by simpa using hcs 3 _ rfl)
          have r4 : wr.cell? ⟨b, off + q * 5 + 4, none⟩ = some (.slice A' e.kids.length c') := (hBq.cell (p := ⟨b, _, none⟩) hbl).trans (by simpa using hcs 4 _ rfl)
          obtain ⟨ny, hny⟩ : ∃ q, e.kids.length = q := ⟨_, rfl⟩
          obtain ⟨ky, hky⟩ : ∃ q, e.kind = q := ⟨_, rfl⟩
          obtain ⟨xy, hxy⟩ : ∃ q, e.text = q := ⟨_, rfl⟩
          obtain ⟨ay, hay⟩ : ∃ q, e.at_ = q := ⟨_, rfl⟩
          obtain ⟨zy, hzy⟩ : ∃ q, e.end_ = q := ⟨_, rfl⟩
          rw [hny, hky, hxy, hay, hzy] at hW4 hcall hR4
          rw [hny] at r4
          rw [hky] at r0
          rw [hxy] at r1
          rw [hay] at r2
          rw [hzy] at r3
          obtain ⟨⟨s0, s1, s2, s3, s4⟩, -⟩ := hR4.five
          obtain ⟨⟨y0, y1, y2, y3, y4⟩, v0, v1, v2, v3, v4⟩ := hR3.five
          have hbw : b < wr.heap.size := Nat.lt_of_lt_of_le hbl hBq.size
          have hgw : wr.heap.size < W4.heap.size := hR4.lt
          have HC := Lib.hid hcall
          have H4 := Lib.hid (And.intro hRq4 hb4)
          have hwr : IntKind.i64.wrap ((q : Int) + 1) = (q : Int) + 1 := IntWalk.i64_in _ (by omega)
          have hqn1 : (q : Int) < (nu : Int) := by omega
          clear hR3 hb3 hRq3 hR4 hf4 hB4 hb4 hRq4 hcall hcs hT hK' hRq hBq he hny hky hxy hay hzy hce
          go_wp2_with (first | rw [hW3] | rw [hW4])
          refine HC.out.mono ?_
          rintro e5 w5 ⟨rfl, hb5⟩
          have H5 : Hid (Blk w5 w.heap.size 24 #[.int .i64 ku, .string xu, .int .i64 au, .int .i64 zu, .slice (some ⟨b, off, none⟩) nu cu] ∧ Below w.heap.size w w5) := Lib.hid ⟨H4.out.1.below hb5 H4.out.1.lt, H4.out.2.trans (hb5.mono H4.out.2.size)⟩
          clear hb5 r0 r1 r2 r3 r4 s0 s1 s2 s3 s4 y0 y1 y2 y3 y4 v0 v1 v2 v3 v4 hW3 hW4 t0 t1 t2 t3 t4 u0 u1 u2 u3 u4
          go_wp2_with fail
          go_roundg (gk - 1)
          case measure => have := HQ.out; omega
          case rel => exact ⟨q + 1, _, by have := HQ.out; omega, rfl, by simp, H5⟩
        · have hqe : q = j := by omega
          subst hqe
          obtain ⟨vals, ⟨b, off, hA, hbl, hcs⟩, hT⟩ := HKU.out.get q v HGV.out.1
          have hcapv := hT
          obtain ⟨A', c', hvals, hK'⟩ := hT.five
          subst hA
          subst hvals
          have hcapv := hcapv.cap
          have r0 : wr.cell? ⟨b, off + q * 5, none⟩ = some (.int .i64 v.kind) := (hBq.cell (p := ⟨b, _, none⟩) hbl).trans (by simpa using hcs 0 _ rfl)
          have r1 : wr.cell? ⟨b, off + q * 5 + 1, none⟩ = some (.string v.text) := (hBq.cell (p := ⟨b, _, none⟩) hbl).trans (by simpa using hcs 1 _ rfl)
          have r2 : wr.cell? ⟨b, off + q * 5 + 2, none⟩ = some (.int .i64 v.at_) := (hBq.cell (p := ⟨b, _, none⟩) hbl).trans (by simpa using hcs 2 _ rfl)
          have r3 : wr.cell? ⟨b, off + q * 5 + 3, none⟩ = some (.int .i64 v.end_) := (hBq.cell (p := ⟨b, _, none⟩) hbl).trans (by simpa using hcs 3 _ rfl)
          have r4 : wr.cell? ⟨b, off + q * 5 + 4, none⟩ = some (.slice A' v.kids.length c') := (hBq.cell (p := ⟨b, _, none⟩) hbl).trans (by simpa using hcs 4 _ rfl)
          have hcv : countM v ≤ 1000000 := by
            have h1 := countsM_mem HGV.out.1
            have h2 := countM_eq u
            have h3 := HCN.out
            omega
          obtain ⟨W5, hW5, hR5, hf5, hB5⟩ := stored5 (a := .int .i64 v.kind) (b := .string v.text) (c := .int .i64 v.at_) (d := .int .i64 v.end_) (e := .slice A' v.kids.length c') hRq
          have HN : Hid (∃ (u : Tree) (Au : Option Addr) (cu : Nat), getM u (p.drop (i + 1)) = some y ∧ KidsAt w w.heap.size Au 0 u.kids ∧ u.kids.length ≤ cu ∧ countM u ≤ 1000000 ∧ Blk W5 w.heap.size 24 (cellsV u Au cu).toArray ∧ Below w.heap.size w W5) :=
            Lib.hid ⟨v, A', c', HGV.out.2, hK', hcapv, hcv, hR5, hB5 _ _ hBq (Nat.le_refl _)⟩
          obtain ⟨ny, hny⟩ : ∃ q, v.kids.length = q := ⟨_, rfl⟩
          obtain ⟨ky, hky⟩ : ∃ q, v.kind = q := ⟨_, rfl⟩
          obtain ⟨xy, hxy⟩ : ∃ q, v.text = q := ⟨_, rfl⟩
          obtain ⟨ay, hay⟩ : ∃ q, v.at_ = q := ⟨_, rfl⟩
          obtain ⟨zy, hzy⟩ : ∃ q, v.end_ = q := ⟨_, rfl⟩
          rw [hny] at r4
          rw [hky] at r0
          rw [hxy] at r1
          rw [hay] at r2
          rw [hzy] at r3
          rw [hny, hky, hxy, hay, hzy] at hW5
          have hbw : b < wr.heap.size := Nat.lt_of_lt_of_le hbl hBq.size
          have hwr : IntKind.i64.wrap ((i : Int) + 1) = (i : Int) + 1 := IntWalk.i64_in _ (by omega)
          clear hcs hT hK' hcapv hR5 hf5 hB5 hny hky hxy hay hzy hcv hRq hBq
          go_wp2_with (rw [hW5])
          go_roundg (gko - 1)
          case measure => have := HI.out; omega
          case rel => exact ⟨i + 1, _, by have := HI.out; omega, by simp, rfl, HN⟩
    · have hie : i = np := by omega
      subst hie
      go_wp2_with fail
      apply bodyPost_ret (v := .tuple #[.int .i64 m, .bool true])
      · simp [results, Tryz.results34, go_sem]
      · rfl
      exact ⟨HB.out, m, rfl⟩
end Go.Proofs.YtfkdkbekmimhoaaGreatDoor
/- tree.Replace, walked where it is possible. -/
namespace Go.Proofs.YtfkdkbekmimhoaaGreatDoor
open Go.RowKit

def ReplRes (w : World) (t : Tree) (e : Ending) (w' : World) : Prop := ∃ A c, e = .returned (.tuple #[nodeV t A c, .int .i64 0]) ∧ TreeOwn w' (fun g => w.heap.size ≤ g) t (cellsV t A c) ∧ Below w.heap.size w w'

set_option maxHeartbeats 8000000 in
set_option maxRecDepth 100000 in
theorem Replace_any (fr tz : Nat) (l : List Tree) (An : Option Addr) (cn : Nat) (p : List Int) (t y : Tree) (A : Option Addr) (c : Nat) (Ap : Option Addr) (np cp : Nat) (w : World) (hgy : getM t p = some y) (hft : fr ≤ tz) (hty : tz ≤ y.kids.length) (hcnt : countM t + countsM l ≤ 1000000) (hls : listB y.kind = true ∨ l.length = tz - fr) (hk : KidsAt w w.heap.size A 0 t.kids) (hcap : t.kids.length ≤ c) (hp : IntsAt w w.heap.size Ap p) (hnp : p.length = np) (hcp : np ≤ cp) (hkl : KidsAt w w.heap.size An 0 l) (hnb : np ≤ 1000000) :
    Calls Tryz.prog 40 #[nodeV t A c, .slice Ap np cp, .int .i64 (fr : Int), .int .i64 (tz : Int), .slice An l.length cn] w (ReplRes w (replM fr tz l p t)) := by
  obtain ⟨T, hT⟩ : ∃ T, replM fr tz l p t = T := ⟨_, rfl⟩
  obtain ⟨ln, hln⟩ : ∃ n, l.length = n := ⟨_, rfl⟩
  obtain ⟨k, hkk⟩ : ∃ q, t.kind = q := ⟨_, rfl⟩
  obtain ⟨x, hx⟩ : ∃ q, t.text = q := ⟨_, rfl⟩
  obtain ⟨a, ha⟩ : ∃ q, t.at_ = q := ⟨_, rfl⟩
  obtain ⟨z, hz⟩ : ∃ q, t.end_ = q := ⟨_, rfl⟩
  obtain ⟨n, hn⟩ : ∃ q, t.kids.length = q := ⟨_, rfl⟩
  have hnv : nodeV t A c = .agg #[.int .i64 k, .string x, .int .i64 a, .int .i64 z, .slice A n c] := by unfold nodeV; rw [hkk, hx, ha, hz, hn]
  obtain ⟨W1, hW1⟩ : ∃ W1, w.alloc (.cells #[.int .i64 k, .string x, .int .i64 a, .int .i64 z, .slice A n c] 24) = W1 := ⟨_, rfl⟩
  have hR1 : Blk W1 w.heap.size 24 #[.int .i64 k, .string x, .int .i64 a, .int .i64 z, .slice A n c] := by rw [← hW1]; exact Blk.new w _ _
  have hs1 : W1.heap.size = w.heap.size + 1 := by rw [← hW1]; simp
  have hb1 : Below w.heap.size w W1 := by rw [← hW1]; exact below_alloc _ _
  obtain ⟨W2, hW2⟩ : ∃ W2, W1.alloc (.cells #[.int .i64 0, .string ⟨#[]⟩, .int .i64 0, .int .i64 0, .slice none 0 0] 24) = W2 := ⟨_, rfl⟩
  have hR2 : Blk W2 W1.heap.size 24 #[.int .i64 0, .string ⟨#[]⟩, .int .i64 0, .int .i64 0, .slice none 0 0] := by rw [← hW2]; exact Blk.new W1 _ _
  have hs2 : W2.heap.size = w.heap.size + 2 := by rw [← hW2]; simp [hs1]
  have hb2 : Below w.heap.size w W2 := by rw [← hW2]; exact hb1.alloc (by omega) _
  have hR12 : Blk W2 w.heap.size 24 #[.int .i64 k, .string x, .int .i64 a, .int .i64 z, .slice A n c] := by rw [← hW2]; exact hR1.alloc _
  obtain ⟨g1, hg1⟩ : ∃ g1, W1.heap.size = g1 := ⟨_, rfl⟩
  rw [hg1] at hR2 hs1
  have hget := Get_any t A c Ap np cp p W2 (KidsAt.mono hb2.size _ _ _ (KidsAt.below hb2 (Nat.le_refl _) _ _ _ hk)) hcap ((hp.below hb2 (Nat.le_refl _)).mono hb2.size) hnp hnb
  rw [hnv] at hget
  have hyb : countM y ≤ 1000000 := by have := getM_count p t y hgy; omega
  have hrep := fun w' (hb : Below w.heap.size w w') => replace_any fr tz l An cn p t A c Ap np cp w' ⟨y, hgy, hft, hty, hcnt⟩ (KidsAt.mono hb.size _ _ _ (KidsAt.below hb (Nat.le_refl _) _ _ _ hk)) hcap ((hp.below hb (Nat.le_refl _)).mono hb.size) hnp hcp (KidsAt.mono hb.size _ _ _ (KidsAt.below hb (Nat.le_refl _) _ _ _ hkl)) hnb
  rw [hln, hT, hnv] at hrep
  rw [hln] at hls
  have hlb : ln ≤ 1000000 := by have := counts_len l; omega
  rw [hln, hT, hnv]
  have HGET := Lib.hid hget
  have HREP := Lib.hid hrep
  have HR2 := Lib.hid hR2
  have HR1 := Lib.hid hR12
  have HB2 := Lib.hid hb2
  have HS : Hid (g1 = w.heap.size + 1 ∧ W2.heap.size = w.heap.size + 2) := Lib.hid ⟨hs1, hs2⟩
  have HGY := Lib.hid hgy
  obtain ⟨⟨t0, t1, t2, t3, t4⟩, -⟩ := hR12.five
  have hyk : y.kids.length ≤ 1000000 := by
    have h1 := counts_len y.kids
    have h2 := countM_eq y
    omega
  have HY := Lib.hid (And.intro hty (And.intro hyk hls))
  clear hk hcap hcnt hR1 hs1 hb1 hR2 hs2 hb2 hR12 hnv hget hrep hp hkl hgy hty hyk hkk hx ha hz hn hT hln hls hyb
  go_enter Tryz.func40, Tryz.ntmps40
  go_wp2_with (first | rw [hW1] | rw [hW2] | rw [hg1])
  refine HGET.out.mono ?_
  rintro e w3 ⟨hb3, h | ⟨u, Au, cu, hgu, -, hcu, rfl⟩⟩
  · have := HGY.out
    rw [h.1] at this
    cases this
  have := hgu.symm.trans HGY.out
  cases this
  clear hgu hW1 hW2 hg1
  obtain ⟨hty, hyk, hls⟩ := HY.out
  obtain ⟨ky, hky⟩ : ∃ q, y.kind = q := ⟨_, rfl⟩
  obtain ⟨xy, hxy⟩ : ∃ q, y.text = q := ⟨_, rfl⟩
  obtain ⟨ay, hay⟩ : ∃ q, y.at_ = q := ⟨_, rfl⟩
  obtain ⟨zy, hzy⟩ : ∃ q, y.end_ = q := ⟨_, rfl⟩
  obtain ⟨ny, hny⟩ : ∃ q, y.kids.length = q := ⟨_, rfl⟩
  have hnvy : nodeV y Au cu = .agg #[.int .i64 ky, .string xy, .int .i64 ay, .int .i64 zy, .slice Au ny cu] := by unfold nodeV; rw [hky, hxy, hay, hzy, hny]
  rw [hnvy]
  rw [hny] at hty hyk
  rw [hky] at hls
  obtain ⟨W4, hW4⟩ : ∃ W4, w3.alloc (.cells #[.int .i64 0, .string ⟨#[]⟩, .int .i64 0, .int .i64 0, .slice none 0 0] 24) = W4 := ⟨_, rfl⟩
  have hR4 : Blk W4 w3.heap.size 24 #[.int .i64 0, .string ⟨#[]⟩, .int .i64 0, .int .i64 0, .slice none 0 0] := by rw [← hW4]; exact Blk.new w3 _ _
  have hs4 := hb3.size
  have hb4 : Below W2.heap.size W2 W4 := by rw [← hW4]; exact hb3.alloc (by omega) _
  obtain ⟨W5, hW5, hR5, hf5, hB5⟩ := stored5 (a := .int .i64 ky) (b := .string xy) (c := .int .i64 ay) (d := .int .i64 zy) (e := .slice Au ny cu) hR4
  have hb5 := hB5 _ _ hb4 (by omega)
  obtain ⟨⟨y0, y1, y2, y3, y4⟩, v0, v1, v2, v3, v4⟩ := hR4.five
  obtain ⟨⟨z0, z1, z2, z3, z4⟩, -⟩ := hR5.five
  have hr5 := HR1.out.below hb5 (by have := HS.out; omega)
  obtain ⟨⟨p0, p1, p2, p3, p4⟩, -⟩ := hr5.five
  have HB5 := Lib.hid hb5
  have HR5 := Lib.hid hR5
  have hL := List_any ky W5
  have HL := Lib.hid hL
  have q1 : ¬ (fr : Int) < 0 := by omega
  have q2 : ¬ (fr : Int) > (tz : Int) := by omega
  have q3 : ¬ (tz : Int) > (ny : Int) := by omega
  have q2' : ¬ (tz : Int) < (fr : Int) := by omega
  have q3' : ¬ (ny : Int) < (tz : Int) := by omega
  have hwr : IntKind.i64.wrap ((tz : Int) - (fr : Int)) = (tz : Int) - (fr : Int) := IntWalk.i64_in _ (by omega)
  have HLS := Lib.hid hls
  clear hR4 hs4 hb4 hR5 hf5 hB5 hb5 hr5 hL hnvy hky hxy hay hzy hny hcu hls
  go_wp2_with (first | rw [hW4] | rw [hW5])
  refine HL.out.mono ?_
  rintro e w6 ⟨rfl, hb6⟩
  obtain ⟨lb, hlb2⟩ : ∃ q, listB ky = q := ⟨_, rfl⟩
  have hls := HLS.out
  rw [hlb2] at hls ⊢
  have hb16 : Below W2.heap.size W2 w6 := HB5.out.trans (hb6.mono HB5.out.size)
  have hr6 := HR1.out.below hb16 (by have := HS.out; omega)
  have hz6 := HR2.out.below hb16 (by have := HS.out; omega)
  have hbw6 : Below w.heap.size w w6 := HB2.out.trans (hb16.mono HB2.out.size)
  obtain ⟨⟨t0, t1, t2, t3, t4⟩, -⟩ := hr6.five
  have hr := HREP.out w6 hbw6
  have HREP2 := Lib.hid hr
  have HZ6 := Lib.hid hz6
  have HW6 := Lib.hid hbw6
  have hdiff : ((tz : Int) - (fr : Int)) = ((tz - fr : Nat) : Int) := by omega
  have hw64 : wrap64 ((tz : Int) - (fr : Int)) = ((tz - fr : Nat) : Int) := by rw [IntWalk.wrap64_in _ (by omega)]; exact hdiff
  clear hb6 hb16 hr6 hz6 hbw6 hr hW4 hW5 y0 y1 y2 y3 y4 v0 v1 v2 v3 v4 z0 z1 z2 z3 z4 p0 p1 p2 p3 p4 hlb2
  obtain ⟨df, hdf⟩ : ∃ q, tz - fr = q := ⟨_, rfl⟩
  rw [hdf] at hls hw64
  clear hdiff hwr
  rcases Bool.eq_false_or_eq_true lb with rfl | rfl
  · go_wp2_with fail
    refine HREP2.out.mono ?_
    rintro e w7 ⟨A7, c7, rfl, hT7, hb7⟩
    obtain ⟨kt, hkt⟩ : ∃ q, T.kind = q := ⟨_, rfl⟩
    obtain ⟨xt, hxt⟩ : ∃ q, T.text = q := ⟨_, rfl⟩
    obtain ⟨at_, hat⟩ : ∃ q, T.at_ = q := ⟨_, rfl⟩
    obtain ⟨zt, hzt⟩ : ∃ q, T.end_ = q := ⟨_, rfl⟩
    obtain ⟨nt, hnt⟩ : ∃ q, T.kids.length = q := ⟨_, rfl⟩
    have hnvt : nodeV T A7 c7 = .agg #[.int .i64 kt, .string xt, .int .i64 at_, .int .i64 zt, .slice A7 nt c7] := by unfold nodeV; rw [hkt, hxt, hat, hzt, hnt]
    have hz7 := HZ6.out.below hb7 HZ6.out.lt
    obtain ⟨W10, hW10, hR10, -, hF⟩ := own_stored (w := w) (TreeOwn.weak (Q := fun q => g1 + 1 ≤ q) (fun q _ hq => by have := HZ6.out.lt; omega) _ _ hT7) (HW6.out.trans (hb7.mono HW6.out.size)) (by have := HS.out; omega) hz7 hkt hxt hat hzt hnt
    rw [hnvt]
    have HR10 := Lib.hid hR10
    have HF := Lib.hid hF
    obtain ⟨⟨y0, y1, y2, y3, y4⟩, q0, q1, q2, q3, q4⟩ := hz7.five
    clear hR10 hF hz7 hb7 hT7 t0 t1 t2 t3 t4 hkt hxt hat hzt hnt
    go_wp2_with (rw [hW10])
    obtain ⟨⟨x0, x1, x2, x3, x4⟩, -⟩ := HR10.out.five
    clear y0 y1 y2 y3 y4 q0 q1 q2 q3 q4 hW10
    have HF2 : Hid (ReplRes w T (.returned (.tuple #[.agg #[.int .i64 kt, .string xt, .int .i64 at_, .int .i64 zt, .slice A7 nt c7], .int .i64 0])) W10) := Lib.hid (by
      obtain ⟨A, c, h1, h2, h3⟩ := HF.out
      cases h1
      exact ⟨_, _, by rw [hnvt], h2, h3⟩)
    apply bodyPost_ret (v := .tuple #[.agg #[.int .i64 kt, .string xt, .int .i64 at_, .int .i64 zt, .slice A7 nt c7], .int .i64 0])
    · simp [results, Tryz.results40, go_sem, x0, x1, x2, x3, x4]
    · rfl
    exact HF2.out
  · have hls : ln = df := by rcases hls with h | h; · cases h
                             · exact h
    subst hls
    go_wp2_with fail
    refine HREP2.out.mono ?_
    rintro e w7 ⟨A7, c7, rfl, hT7, hb7⟩
    obtain ⟨kt, hkt⟩ : ∃ q, T.kind = q := ⟨_, rfl⟩
    obtain ⟨xt, hxt⟩ : ∃ q, T.text = q := ⟨_, rfl⟩
    obtain ⟨at_, hat⟩ : ∃ q, T.at_ = q := ⟨_, rfl⟩
    obtain ⟨zt, hzt⟩ : ∃ q, T.end_ = q := ⟨_, rfl⟩
    obtain ⟨nt, hnt⟩ : ∃ q, T.kids.length = q := ⟨_, rfl⟩
    have hnvt : nodeV T A7 c7 = .agg #[.int .i64 kt, .string xt, .int .i64 at_, .int .i64 zt, .slice A7 nt c7] := by unfold nodeV; rw [hkt, hxt, hat, hzt, hnt]
    have hz7 := HZ6.out.below hb7 HZ6.out.lt
    obtain ⟨W10, hW10, hR10, -, hF⟩ := own_stored (w := w) (TreeOwn.weak (Q := fun q => g1 + 1 ≤ q) (fun q _ hq => by have := HZ6.out.lt; omega) _ _ hT7) (HW6.out.trans (hb7.mono HW6.out.size)) (by have := HS.out; omega) hz7 hkt hxt hat hzt hnt
    rw [hnvt]
    have HR10 := Lib.hid hR10
    have HF := Lib.hid hF
    obtain ⟨⟨y0, y1, y2, y3, y4⟩, q0, q1, q2, q3, q4⟩ := hz7.five
    clear hR10 hF hz7 hb7 hT7 t0 t1 t2 t3 t4 hkt hxt hat hzt hnt
    go_wp2_with (rw [hW10])
    obtain ⟨⟨x0, x1, x2, x3, x4⟩, -⟩ := HR10.out.five
    clear y0 y1 y2 y3 y4 q0 q1 q2 q3 q4 hW10
    have HF2 : Hid (ReplRes w T (.returned (.tuple #[.agg #[.int .i64 kt, .string xt, .int .i64 at_, .int .i64 zt, .slice A7 nt c7], .int .i64 0])) W10) := Lib.hid (by
      obtain ⟨A, c, h1, h2, h3⟩ := HF.out
      cases h1
      exact ⟨_, _, by rw [hnvt], h2, h3⟩)
    apply bodyPost_ret (v := .tuple #[.agg #[.int .i64 kt, .string xt, .int .i64 at_, .int .i64 zt, .slice A7 nt c7], .int .i64 0])
    · simp [results, Tryz.results40, go_sem, x0, x1, x2, x3, x4]
    · rfl
    exact HF2.out
end Go.Proofs.YtfkdkbekmimhoaaGreatDoor
/- slices.ContainsFunc of no edit, slices.SortStableFunc of one, walked. -/
namespace Go.Proofs.YtfkdkbekmimhoaaGreatDoor
open Go.RowKit

theorem ContainsFunc_none (A : Option Addr) (c : Nat) (fv : Value) (w : World) :
    Calls Tryz.prog 35 #[.slice A 0 c, fv] w fun e w' => e = .returned (.bool false) ∧ Below w.heap.size w w' := by
  have h : ∀ W, Calls Tryz.prog 57 #[.slice A 0 c, fv] W fun e w' => e = .returned (.int .i64 (-1)) ∧ w' = W := fun W => by
    go_enter Tryz.func57, Tryz.ntmps57
    go_wp2_with fail
    go_loopg [8] 0 (fun gk s wr => gk = 0 ∧ s = .int .i64 0 ∧ wr = W)
    case atStart => exact ⟨rfl, rfl, rfl⟩
    case round =>
      obtain ⟨rfl, rfl, rfl⟩ := hrel
      go_wp2_with fail
      go_ret
      exact ⟨rfl, rfl⟩
  go_enter Tryz.func35, Tryz.ntmps35
  go_wp2_with fail
  refine (h _).mono ?_
  rintro e w' ⟨rfl, rfl⟩
  go_wp2_with fail
  go_ret
  exact ⟨rfl, Below.refl _ _⟩

theorem insertion_one (A : Option Addr) (c : Nat) (fv : Value) (w : World) :
    Calls Tryz.prog 99 #[.slice A 1 c, .int .i64 0, .int .i64 1, fv] w fun e w' => e = .returned (.tuple #[]) ∧ w' = w := by
  go_enter Tryz.func99, Tryz.ntmps99
  go_wp2_with fail
  go_loopg [8] 0 (fun gk s wr => gk = 0 ∧ s = .int .i64 1 ∧ wr = w)
  case atStart => exact ⟨rfl, rfl, rfl⟩
  case round =>
    obtain ⟨rfl, rfl, rfl⟩ := hrel
    go_wp2_with fail
    go_end0
    exact ⟨rfl, rfl⟩
theorem SortStable_one (A : Option Addr) (c : Nat) (fv : Value) (w : World) :
    Calls Tryz.prog 37 #[.slice A 1 c, fv] w fun e w' => e = .returned (.tuple #[]) ∧ w' = w := by
  have h : ∀ W, Calls Tryz.prog 58 #[.slice A 1 c, .int .i64 1, fv] W fun e w' => e = .returned (.tuple #[]) ∧ w' = W := fun W => by
    go_enter Tryz.func58, Tryz.ntmps58
    go_wp2_with fail
    go_loopg [7, 8] 0 (fun gk s7 s8 wr => gk = 0 ∧ s7 = .int .i64 0 ∧ s8 = .int .i64 20 ∧ wr = W)
    case atStart => exact ⟨rfl, rfl, rfl, rfl⟩
    case round =>
      obtain ⟨rfl, rfl, rfl, rfl⟩ := hrel
      go_wp2_with fail
      refine (insertion_one _ _ _ _).mono ?_
      rintro e w' ⟨rfl, rfl⟩
      go_wp2_with fail
      go_loopg [6] 0 (fun gk s6 wx => gk = 0 ∧ s6 = .int .i64 20 ∧ wx = w')
      case atStart => exact ⟨rfl, rfl, rfl⟩
      case round =>
        obtain ⟨rfl, rfl, rfl⟩ := hrel
        go_wp2_with fail
        go_end0
        exact ⟨rfl, rfl⟩
  go_enter Tryz.func37, Tryz.ntmps37
  go_wp2_with fail
  refine (h _).mono ?_
  rintro e w' ⟨rfl, rfl⟩
  go_wp2_with fail
  go_end0
  exact ⟨rfl, rfl⟩
end Go.Proofs.YtfkdkbekmimhoaaGreatDoor
/- slices.Backward over a row of one numbered edit, walked. -/
namespace Go.Proofs.YtfkdkbekmimhoaaGreatDoor
open Go.RowKit Go.Shelf

/-- The cells of an edit with its number, and the value that they hold. -/
def numC (e0 e1 e2 e3 e4 e5 e6 nb : Value) : List Value := [e0, e1, e2, e3, e4, e5, e6, nb]
def numV (e0 e1 e2 e3 e4 e5 e6 nb : Value) : Value := .agg #[e0, e1, e2, e3, e4, e5, e6, nb]

set_option maxRecDepth 100000 in
set_option maxHeartbeats 2000000 in
theorem back1_in (F : Fence) (hd : F.depth = none) (h1 : F.fn 61) (hro : F.round = none) (l Bt B n₁ g off c : Nat) (Ap An : Option Addr) (np cp nn cn : Nat) (e1 e2 e4 e5 e6 nb : Int) (n : Nat) (J Jx : List Unit → World → Prop)
    (hY : ∀ pre x W, J pre W → pre.length < 1 → YieldAt F (n - 1) Tryz.prog l #[.int .i64 0, numV (.slice Ap np cp) (.int .i64 e1) (.int .i64 e2) (.slice An nn cn) (.int .i64 e4) (.int .i64 e5) (.int .i64 e6) (.int .i64 nb)] W fun e W' =>
      (e = .returned (.bool true) ∧ J (pre ++ [x]) W' ∧ CKeep B n₁ W W') ∨ (e = .returned (.bool false) ∧ Jx (pre ++ [x]) W'))
    (W : World) (hBt : n₁ ≤ Bt) (hbox : Blk W Bt 62 #[.slice (some ⟨g, off, none⟩) 1 c])
    (hrow : ∀ j v, (numC (.slice Ap np cp) (.int .i64 e1) (.int .i64 e2) (.slice An nn cn) (.int .i64 e4) (.int .i64 e5) (.int .i64 e6) (.int .i64 nb))[j]? = some v → W.cell? ⟨g, off + j, none⟩ = some v) (hgW : g < W.heap.size) (h0 : J [] W) :
    CallsIn F n Tryz.prog 61 #[.func (.yield l) #[] #[], .pointer (some ⟨Bt, 0, none⟩)] W fun e W' => (∃ v, e = .returned v) ∧
      ((∃ ys : List Unit, ys = [()] ∧ J ys W') ∨ (∃ pre : List Unit, True ∧ Jx pre W')) := by
  have hdd : ∀ k : Nat, (F.depth.isSome = true → 1 ≤ k) := fun k h => by rw [hd] at h; cases h
  have c0 := hbox.cell 0
  have hlt := hbox.lt
  have r0 : W.cell? ⟨g, off, none⟩ = some (.slice Ap np cp) := by simpa using hrow 0 _ rfl
  have r1 := hrow 1 _ rfl
  have r2 := hrow 2 _ rfl
  have r3 := hrow 3 _ rfl
  have r4 := hrow 4 _ rfl
  have r5 := hrow 5 _ rfl
  have r6 := hrow 6 _ rfl
  have r7 := hrow 7 _ rfl
  have hy := (hY [] () W h0 (by simp)).mono (R' := fun e W2 => (e = .returned (.bool true) ∧ W2.cell? ⟨Bt, 0, none⟩ = some (.slice (some ⟨g, off, none⟩) 1 c) ∧ J [()] W2) ∨ (e = .returned (.bool false) ∧ Jx [()] W2))
    (fun e W2 h => h.elim (fun ⟨h1, h2, h3⟩ => .inl ⟨h1, (h3.blk (.inr hBt) hbox).cell 0, by simpa using h2⟩) (fun ⟨h1, h2⟩ => .inr ⟨h1, by simpa using h2⟩))
  unfold numV at hy
  obtain ⟨fn, tmps, assign, body, hyy, hR⟩ := hy
  have HR := Lib.hid hR
  clear hY hbox hrow h0 hR
  refine callsIn_of_wp Tryz.func61 rfl h1 ?_ hro
  simp only [Tryz.ntmps61, List.size_toArray, List.length_cons, List.length_nil, Nat.reduceAdd, Nat.reduceSub, Array.replicate_succ, Array.replicate_zero, List.push_toArray, List.append_toArray, List.nil_append, List.cons_append]
  gi_wp2
  gi_loopw [3] (fun p wr => (p = .int .i64 0 ∧ wr = W) ∨ (p = .int .i64 (-1) ∧ J [()] wr)) (fun p _ => (intOf p + 1).toNat)
  case atStart => exact .inl ⟨rfl, rfl⟩
  case round =>
    rcases hrel with ⟨rfl, rfl⟩ | ⟨rfl, hj⟩
    · gi_wp2_with (first
        | ((try refine ⟨hdd _, ?_⟩); refine HR.out.mono ?_; rintro e W2 (⟨rfl, c4, hJ2⟩ | ⟨rfl, hx2⟩)))
      · exact ⟨.inr ⟨rfl, hJ2⟩, by simp [intOf]⟩
      · refine bodyPost_ret (v := .tuple #[]) (by simp [results, Tryz.results61, go_sem]) rfl ?_
        exact ⟨⟨_, rfl⟩, .inr ⟨[()], trivial, hx2⟩⟩
    · gi_wp2
      go_end0
      exact ⟨⟨_, rfl⟩, .inl ⟨[()], rfl, hj⟩⟩

theorem back_stops (F : Fence) (hd : F.depth = none) (n : Nat) (h1 : F.fn 61) (hro : F.round = none) (Bt B n₁ g off c : Nat) (Ap An : Option Addr) (np cp nn cn : Nat) (e1 e2 e4 e5 e6 nb : Int) (w : World)
    (hBt : n₁ ≤ Bt) (hbox : Blk w Bt 62 #[.slice (some ⟨g, off, none⟩) 1 c])
    (hrow : ∀ j v, (numC (.slice Ap np cp) (.int .i64 e1) (.int .i64 e2) (.slice An nn cn) (.int .i64 e4) (.int .i64 e5) (.int .i64 e6) (.int .i64 nb))[j]? = some v → w.cell? ⟨g, off + j, none⟩ = some v) (hgW : g < w.heap.size) :
    SeqStopsK F n Tryz.prog 61 #[.pointer (some ⟨Bt, 0, none⟩)] (fun _ : Unit => #[.int .i64 0, numV (.slice Ap np cp) (.int .i64 e1) (.int .i64 e2) (.slice An nn cn) (.int .i64 e4) (.int .i64 e5) (.int .i64 e6) (.int .i64 nb)]) (CKeep B n₁) (fun ys => ys = [()]) (fun _ => True) 1 w :=
  fun l J Jx W hW _ _ hY h0 =>
    back1_in F hd h1 hro l Bt B n₁ g off c Ap An np cp nn cn e1 e2 e4 e5 e6 nb n J Jx hY W hBt (hbox.below hW hbox.lt) (fun j v hj => (hW.cell (p := ⟨g, _, none⟩) hgW).trans (hrow j v hj)) (Nat.lt_of_lt_of_le hgW hW.size) h0

theorem Backward_any (A : Option Addr) (m c : Nat) (w : World) :
    Calls Tryz.prog 39 #[.slice A m c] w fun e w' => e = .returned (.func (.func 61) #[] #[.pointer (some ⟨w.heap.size, 0, none⟩)]) ∧ w' = w.alloc (.cells #[.slice A m c] 62) := by
  go_enter Tryz.func39, Tryz.ntmps39
  go_wp2_with fail
  go_ret
  exact ⟨rfl, rfl⟩
end Go.Proofs.YtfkdkbekmimhoaaGreatDoor
