/- Comparers of the laws: lists of ints, lists of types, lists of chains. -/
import Derived.Test.YtpdimehoepfgaaaSolve
namespace Go.Proofs.Ytpdimehoepfgaaa
open Go.RowKit

def intCells (z : Int) : List Value := [.int .i64 z]

theorem take_ext {α : Type} {l1 l2 : List α} {k : Nat} {x y : α} (h : l1.take k = l2.take k) (h1 : l1[k]? = some x) (h2 : l2[k]? = some y) (hxy : x = y) : l1.take (k + 1) = l2.take (k + 1) := by
  rw [List.take_add_one, List.take_add_one, h, h1, h2, hxy]

set_option maxHeartbeats 1000000 in
theorem Ints_any (A1 A2 : Option Addr) (n1 n2 c1 c2 : Nat) (l1 l2 : List Int) (w : World) (h1 : RowAt 1 (fun z => [Value.int .i64 z]) w w.heap.size A1 l1) (h2 : RowAt 1 (fun z => [Value.int .i64 z]) w w.heap.size A2 l2) (hl1 : l1.length = n1) (hl2 : l2.length = n2) (hn : n1 ≤ 1000000) :
    Calls Try.prog 35 #[.slice A1 n1 c1, .slice A2 n2 c2] w fun e w' => e = .returned (.bool (decide (l1 = l2))) ∧ Below w.heap.size w w' := by
  by_cases hne : n1 = n2
  · subst hne
    have H1 := Lib.hid h1
    have H2 := Lib.hid h2
    have HL1 := Lib.hid hl1
    have HL2 := Lib.hid hl2
    clear h1 h2 hl1 hl2
    go_enter Try.func35, Try.ntmps35
    go_wp2_with fail
    go_loopg [5] n1 (fun gk s wr => ∃ k : Nat, k + gk = n1 ∧ s = .int .i64 k ∧ Below w.heap.size w wr ∧ l1.take k = l2.take k)
    case atStart => exact ⟨0, by omega, rfl, Below.refl _ _, rfl⟩
    case round =>
      obtain ⟨k, hk, rfl, hB, ht⟩ := hrel
      have hk' : k ≤ n1 := by omega
      have HK := Lib.hid hk
      have HT := Lib.hid ht
      clear hk ht
      by_cases hlt : k < n1
      · have e1 : l1[k]? = some (l1[k]'(by rw [HL1.out]; exact hlt)) := List.getElem?_eq_getElem _
        have e2 : l2[k]? = some (l2[k]'(by rw [HL2.out]; exact hlt)) := List.getElem?_eq_getElem _
        generalize l1[k]'(by rw [HL1.out]; exact hlt) = x at e1
        generalize l2[k]'(by rw [HL2.out]; exact hlt) = y at e2
        obtain ⟨b1, o1, hA1, hb1, hc1⟩ := (H1.out.below hB (Nat.le_refl _)) k _ e1
        obtain ⟨b2, o2, hA2, hb2, hc2⟩ := (H2.out.below hB (Nat.le_refl _)) k _ e2
        subst hA1
        subst hA2
        have hx : wr.cell? ⟨b1, o1 + k, none⟩ = some (.int .i64 x) := by simpa using hc1 0 _ rfl
        have hy : wr.cell? ⟨b2, o2 + k, none⟩ = some (.int .i64 y) := by simpa using hc2 0 _ rfl
        have E1 := Lib.hid e1
        have E2 := Lib.hid e2
        have hkn : (k : Int) < (n1 : Int) := by omega
        clear hc1 hc2 e1 e2
        by_cases hxy : x = y
        · subst hxy
          go_wp2_with fail
          go_quiet (fail)
          go_wp2_with fail
          go_roundg (gk - 1)
          case measure => have := HK.out; omega
          case rel => exact ⟨k + 1, by have := HK.out; omega, by go_num, by (repeat (first | exact Below.refl _ _ | assumption | refine Below.trans ?_ (Below.mono (by assumption) (by first | omega | (simp; done) | (simp; omega))) | refine Below.alloc ?_ (by first | omega | (simp; done) | (simp; omega)) _ | refine Below.setCell ?_ (by first | omega | (simp; done) | (simp; omega)) _ | refine Below.drew ?_ | refine below_drewN ?_ _)), take_ext HT.out E1.out E2.out rfl⟩
        · have hxb : (x != y) = true := by simpa using hxy
          have hres : decide (l1 = l2) = false := by
            refine decide_eq_false fun e => ?_
            have := E1.out
            rw [e, E2.out] at this
            cases this
            exact hxy rfl
          have HRES := Lib.hid hres
          clear hres hxy
          go_wp2_with fail
          go_quiet (fail)
          go_wp2_with fail
          go_ret
          rw [HRES.out]
          exact ⟨rfl, by (repeat (first | exact Below.refl _ _ | assumption | refine Below.trans ?_ (Below.mono (by assumption) (by first | omega | (simp; done) | (simp; omega))) | refine Below.alloc ?_ (by first | omega | (simp; done) | (simp; omega)) _ | refine Below.setCell ?_ (by first | omega | (simp; done) | (simp; omega)) _ | refine Below.drew ?_ | refine below_drewN ?_ _))⟩
      · have hres : decide (l1 = l2) = true := by
          have h := HT.out
          rw [List.take_of_length_le (by rw [HL1.out]; omega), List.take_of_length_le (by rw [HL2.out]; omega)] at h
          exact decide_eq_true h
        have HRES := Lib.hid hres
        clear hres
        go_wp2_with fail
        go_ret
        rw [HRES.out]
        exact ⟨rfl, by (repeat (first | exact Below.refl _ _ | assumption | refine Below.trans ?_ (Below.mono (by assumption) (by first | omega | (simp; done) | (simp; omega))) | refine Below.alloc ?_ (by first | omega | (simp; done) | (simp; omega)) _ | refine Below.setCell ?_ (by first | omega | (simp; done) | (simp; omega)) _ | refine Below.drew ?_ | refine below_drewN ?_ _))⟩
  · have hb : (n1 != n2) = true := by simpa using hne
    have hres : decide (l1 = l2) = false := decide_eq_false (fun e => hne (by rw [← hl1, ← hl2, e]))
    have HRES := Lib.hid hres
    have hb2 : ((n1 : Int) != (n2 : Int)) = true := by simp; omega
    clear hres h1 h2 hl1 hl2
    go_enter Try.func35, Try.ntmps35
    go_wp2_with fail
    go_ret
    rw [HRES.out]
    exact ⟨rfl, by (repeat (first | exact Below.refl _ _ | assumption | refine Below.trans ?_ (Below.mono (by assumption) (by first | omega | (simp; done) | (simp; omega))) | refine Below.alloc ?_ (by first | omega | (simp; done) | (simp; omega)) _ | refine Below.setCell ?_ (by first | omega | (simp; done) | (simp; omega)) _ | refine Below.drew ?_ | refine below_drewN ?_ _))⟩

def eqT (a b : Ty) : Bool := eqTy a.k a.n a.r b.k b.n b.r
def tysEq (a b : List Ty) : Bool := decide (a.length = b.length) && (List.range a.length).all fun i => match a[i]?, b[i]? with | some x, some y => eqT x y | _, _ => true

theorem eqT_refl (a : Ty) : eqT a a = true := by simp [eqT, eqTy]
theorem tysEq_refl (a : List Ty) : tysEq a a = true := by
  unfold tysEq
  rw [decide_eq_true rfl, Bool.true_and, List.all_eq_true]
  intro i hi
  rw [List.mem_range] at hi
  rw [List.getElem?_eq_getElem hi]
  exact eqT_refl _

set_option maxHeartbeats 1000000 in
theorem Equal_any (A1 A2 : Option Addr) (n1 n2 c1 c2 : Nat) (l1 l2 : List Ty) (w : World) (h1 : RowAt 3 tyCells w w.heap.size A1 l1) (h2 : RowAt 3 tyCells w w.heap.size A2 l2) (hl1 : l1.length = n1) (hl2 : l2.length = n2) (hn : n1 ≤ 1000000) :
    Calls Try.prog 16 #[.slice A1 n1 c1, .slice A2 n2 c2] w fun e w' => e = .returned (.bool (tysEq l1 l2)) ∧ Below w.heap.size w w' := by
  by_cases hne : n1 = n2
  · subst hne
    have hnt := run_neTy
    have HNT := Lib.hid hnt
    have H1 := Lib.hid h1
    have H2 := Lib.hid h2
    have HL1 := Lib.hid hl1
    have HL2 := Lib.hid hl2
    clear h1 h2 hl1 hl2 hnt
    go_enter Try.func16, Try.ntmps16
    go_wp2_with fail
    go_loopg [5] n1 (fun gk s wr => ∃ k : Nat, k + gk = n1 ∧ s = .int .i64 k ∧ Below w.heap.size w wr ∧ ∀ i, i < k → (match l1[i]?, l2[i]? with | some x, some y => eqT x y | _, _ => true) = true)
    case atStart => exact ⟨0, by omega, rfl, Below.refl _ _, fun i hi => by omega⟩
    case round =>
      obtain ⟨k, hk, rfl, hB, ht⟩ := hrel
      have hk' : k ≤ n1 := by omega
      have HK := Lib.hid hk
      have HT := Lib.hid ht
      clear hk ht
      by_cases hlt : k < n1
      · have e1 : l1[k]? = some (l1[k]'(by rw [HL1.out]; exact hlt)) := List.getElem?_eq_getElem _
        have e2 : l2[k]? = some (l2[k]'(by rw [HL2.out]; exact hlt)) := List.getElem?_eq_getElem _
        generalize l1[k]'(by rw [HL1.out]; exact hlt) = x at e1
        generalize l2[k]'(by rw [HL2.out]; exact hlt) = y at e2
        obtain ⟨b1, o1, hA1, hb1, hc1⟩ := (H1.out.below hB (Nat.le_refl _)) k _ e1
        obtain ⟨b2, o2, hA2, hb2, hc2⟩ := (H2.out.below hB (Nat.le_refl _)) k _ e2
        subst hA1
        subst hA2
        have hx0 : wr.cell? ⟨b1, o1 + k * 3, none⟩ = some (.int .i64 x.k) := hc1 0 _ rfl
        have hx1 : wr.cell? ⟨b1, o1 + k * 3 + 1, none⟩ = some (.int .i64 x.n) := hc1 1 _ rfl
        have hx2 : wr.cell? ⟨b1, o1 + k * 3 + 2, none⟩ = some (.string x.r) := hc1 2 _ rfl
        have hy0 : wr.cell? ⟨b2, o2 + k * 3, none⟩ = some (.int .i64 y.k) := hc2 0 _ rfl
        have hy1 : wr.cell? ⟨b2, o2 + k * 3 + 1, none⟩ = some (.int .i64 y.n) := hc2 1 _ rfl
        have hy2 : wr.cell? ⟨b2, o2 + k * 3 + 2, none⟩ = some (.string y.r) := hc2 2 _ rfl
        have hq := HNT.out x.k x.n x.r y.k y.n y.r
        obtain ⟨q, hqe⟩ : ∃ q, eqTy x.k x.n x.r y.k y.n y.r = q := ⟨_, rfl⟩
        rw [hqe] at hq
        have E1 := Lib.hid e1
        have E2 := Lib.hid e2
        have EQ := Lib.hid hqe
        have hkn : (k : Int) < (n1 : Int) := by omega
        clear hc1 hc2 e1 e2 hqe
        cases q
        · have hres : tysEq l1 l2 = false := by
            unfold tysEq
            rw [decide_eq_true (by rw [HL1.out, HL2.out]), Bool.true_and, List.all_eq_false]
            refine ⟨k, by rw [List.mem_range, HL1.out]; exact hlt, ?_⟩
            rw [E1.out, E2.out]
            simp [eqT, EQ.out]
          have HRES := Lib.hid hres
          clear hres
          go_wp2_with fail
          go_quiet (fail)
          go_wp2_with fail
          go_ret
          rw [HRES.out]
          exact ⟨rfl, by (repeat (first | exact Below.refl _ _ | assumption | refine Below.trans ?_ (Below.mono (by assumption) (by first | omega | (simp; done) | (simp; omega))) | refine Below.alloc ?_ (by first | omega | (simp; done) | (simp; omega)) _ | refine Below.setCell ?_ (by first | omega | (simp; done) | (simp; omega)) _ | refine Below.drew ?_ | refine below_drewN ?_ _))⟩
        · go_wp2_with fail
          go_quiet (fail)
          go_wp2_with fail
          go_roundg (gk - 1)
          case measure => have := HK.out; omega
          case rel =>
            refine ⟨k + 1, by have := HK.out; omega, by go_num, by (repeat (first | exact Below.refl _ _ | assumption | refine Below.trans ?_ (Below.mono (by assumption) (by first | omega | (simp; done) | (simp; omega))) | refine Below.alloc ?_ (by first | omega | (simp; done) | (simp; omega)) _ | refine Below.setCell ?_ (by first | omega | (simp; done) | (simp; omega)) _ | refine Below.drew ?_ | refine below_drewN ?_ _)), fun i hi => ?_⟩
            by_cases hik : i = k
            · subst hik
              rw [E1.out, E2.out]
              exact EQ.out
            · exact HT.out i (by omega)
      · have hres : tysEq l1 l2 = true := by
          unfold tysEq
          rw [decide_eq_true (by rw [HL1.out, HL2.out]), Bool.true_and, List.all_eq_true]
          intro i hi
          rw [List.mem_range, HL1.out] at hi
          exact HT.out i (by omega)
        have HRES := Lib.hid hres
        clear hres
        go_wp2_with fail
        go_ret
        rw [HRES.out]
        exact ⟨rfl, by (repeat (first | exact Below.refl _ _ | assumption | refine Below.trans ?_ (Below.mono (by assumption) (by first | omega | (simp; done) | (simp; omega))) | refine Below.alloc ?_ (by first | omega | (simp; done) | (simp; omega)) _ | refine Below.setCell ?_ (by first | omega | (simp; done) | (simp; omega)) _ | refine Below.drew ?_ | refine below_drewN ?_ _))⟩
  · have hb : (n1 != n2) = true := by simpa using hne
    have hres : tysEq l1 l2 = false := by
      unfold tysEq
      rw [decide_eq_false (by rw [hl1, hl2]; exact hne), Bool.false_and]
    have HRES := Lib.hid hres
    have hb2 : ((n1 : Int) != (n2 : Int)) = true := by simp; omega
    clear hres h1 h2 hl1 hl2
    go_enter Try.func16, Try.ntmps16
    go_wp2_with fail
    go_ret
    rw [HRES.out]
    exact ⟨rfl, by (repeat (first | exact Below.refl _ _ | assumption | refine Below.trans ?_ (Below.mono (by assumption) (by first | omega | (simp; done) | (simp; omega))) | refine Below.alloc ?_ (by first | omega | (simp; done) | (simp; omega)) _ | refine Below.setCell ?_ (by first | omega | (simp; done) | (simp; omega)) _ | refine Below.drew ?_ | refine below_drewN ?_ _))⟩

theorem ChainsAt.below {w w' : World} {B B' : Nat} {A : Option Addr} {chs : List (List Int)} (h : ChainsAt w B A chs) (hb : Below B' w w') (hB : B ≤ B') : ChainsAt w' B A chs := by
  intro k ch hk
  obtain ⟨b, off, Ai, c, hA, hlt, hc, hle, hr⟩ := h k ch hk
  exact ⟨b, off, Ai, c, hA, hlt, (hb.cell (p := ⟨b, _, none⟩) (by show b < B'; omega)).trans hc, hle, hr.below hb hB⟩

theorem ChainsAt.mono {w : World} {B B' : Nat} {A : Option Addr} {chs : List (List Int)} (h : ChainsAt w B A chs) (hB : B ≤ B') : ChainsAt w B' A chs := by
  intro k ch hk
  obtain ⟨b, off, Ai, c, hA, hlt, hc, hle, hr⟩ := h k ch hk
  exact ⟨b, off, Ai, c, hA, by omega, hc, hle, hr.mono hB⟩

theorem ChainsAt.later {w w' : World} {A : Option Addr} {chs : List (List Int)} (h : ChainsAt w w.heap.size A chs) (hb : Below w.heap.size w w') : ChainsAt w' w'.heap.size A chs := (h.below hb (Nat.le_refl _)).mono hb.size
theorem RowAt.later {α : Type} {size : Nat} {cells : α → List Value} {w w' : World} {A : Option Addr} {l : List α} (h : RowAt size cells w w.heap.size A l) (hb : Below w.heap.size w w') : RowAt size cells w' w'.heap.size A l := (h.below hb (Nat.le_refl _)).mono hb.size

set_option maxHeartbeats 1000000 in
theorem Lists_any (A1 A2 : Option Addr) (n1 n2 c1 c2 : Nat) (l1 l2 : List (List Int)) (w : World) (h1 : ChainsAt w w.heap.size A1 l1) (h2 : ChainsAt w w.heap.size A2 l2) (hl1 : l1.length = n1) (hl2 : l2.length = n2) (hn : n1 ≤ 1000000) (hm : ∀ ch ∈ l1, ch.length ≤ 1000000) :
    Calls Try.prog 18 #[.slice A1 n1 c1, .slice A2 n2 c2] w fun e w' => e = .returned (.bool (decide (l1 = l2))) ∧ Below w.heap.size w w' := by
  by_cases hne : n1 = n2
  · subst hne
    have H1 := Lib.hid h1
    have H2 := Lib.hid h2
    have HL1 := Lib.hid hl1
    have HL2 := Lib.hid hl2
    have HM := Lib.hid hm
    clear h1 h2 hl1 hl2 hm
    go_enter Try.func18, Try.ntmps18
    go_wp2_with fail
    go_loopg [5] n1 (fun gk s wr => ∃ k : Nat, k + gk = n1 ∧ s = .int .i64 k ∧ Below w.heap.size w wr ∧ l1.take k = l2.take k)
    case atStart => exact ⟨0, by omega, rfl, Below.refl _ _, rfl⟩
    case round =>
      obtain ⟨k, hk, rfl, hB, ht⟩ := hrel
      have hk' : k ≤ n1 := by omega
      have HK := Lib.hid hk
      have HT := Lib.hid ht
      clear hk ht
      by_cases hlt : k < n1
      · have e1 : l1[k]? = some (l1[k]'(by rw [HL1.out]; exact hlt)) := List.getElem?_eq_getElem _
        have e2 : l2[k]? = some (l2[k]'(by rw [HL2.out]; exact hlt)) := List.getElem?_eq_getElem _
        generalize l1[k]'(by rw [HL1.out]; exact hlt) = x at e1
        generalize l2[k]'(by rw [HL2.out]; exact hlt) = y at e2
        have hxm := HM.out x (List.mem_of_getElem? e1)
        obtain ⟨b1, o1, Ai1, ci1, hA1, hb1, hc1, -, hr1⟩ := (H1.out.below hB (Nat.le_refl _)) k _ e1
        obtain ⟨b2, o2, Ai2, ci2, hA2, hb2, hc2, -, hr2⟩ := (H2.out.below hB (Nat.le_refl _)) k _ e2
        subst hA1
        subst hA2
        have E1 := Lib.hid e1
        have E2 := Lib.hid e2
        have HR1 := Lib.hid (hr1.mono hB.size)
        have HR2 := Lib.hid (hr2.mono hB.size)
        have hkn : (k : Int) < (n1 : Int) := by omega
        have hs1 : b1 < wr.heap.size := by have := hB.size; omega
        have hs2 : b2 < wr.heap.size := by have := hB.size; omega
        obtain ⟨nx, hnx⟩ : ∃ nx, x.length = nx := ⟨_, rfl⟩
        obtain ⟨ny, hny⟩ : ∃ ny, y.length = ny := ⟨_, rfl⟩
        rw [hnx] at hc1 hxm
        rw [hny] at hc2
        have HNX := Lib.hid hnx
        have HNY := Lib.hid hny
        clear e1 e2 hr1 hr2 hnx hny
        go_wp2_with fail
        go_region_held3 (fun w' => w'.cell? ⟨b1, o1 + k, none⟩ = some (.slice Ai1 nx ci1) ∧ w'.cell? ⟨b2, o2 + k, none⟩ = some (.slice Ai2 ny ci2)) (first | go_keep | (refine ⟨?_, ?_⟩ <;> (rw [hb1'.cell (by first | exact hs1 | exact hs2)]; assumption))) ((go_at_call 35; refine (Ints_any Ai1 Ai2 nx ny ci1 ci2 x y _ (by exact HR1.out) (by exact HR2.out) HNX.out HNY.out hxm).mono ?_; rintro e w1 ⟨rfl, hb1'⟩))
        have hBs := hB.size
        generalize hbq : decide (x = y) = bq
        have HBQ := Lib.hid hbq
        clear hbq
        cases bq
        rotate_left
        · go_wp2_with fail
          go_roundg (gk - 1)
          case measure => have := HK.out; omega
          case rel => exact ⟨k + 1, by have := HK.out; omega, by go_num, by (repeat (first | exact Below.refl _ _ | assumption | refine Below.trans ?_ (Below.mono (by assumption) (by first | omega | (simp; done) | (simp; omega))) | refine Below.alloc ?_ (by first | omega | (simp; done) | (simp; omega)) _ | refine Below.setCell ?_ (by first | omega | (simp; done) | (simp; omega)) _ | refine Below.drew ?_ | refine below_drewN ?_ _)), take_ext HT.out E1.out E2.out (of_decide_eq_true HBQ.out)⟩
        · have hxy := of_decide_eq_false HBQ.out
          have hres : decide (l1 = l2) = false := by
            refine decide_eq_false fun e => ?_
            have := E1.out
            rw [e, E2.out] at this
            cases this
            exact hxy rfl
          have HRES := Lib.hid hres
          clear hres hxy
          go_wp2_with fail
          go_ret
          rw [HRES.out]
          exact ⟨rfl, by (repeat (first | exact Below.refl _ _ | assumption | refine Below.trans ?_ (Below.mono (by assumption) (by first | omega | (simp; done) | (simp; omega))) | refine Below.alloc ?_ (by first | omega | (simp; done) | (simp; omega)) _ | refine Below.setCell ?_ (by first | omega | (simp; done) | (simp; omega)) _ | refine Below.drew ?_ | refine below_drewN ?_ _))⟩
      · have hres : decide (l1 = l2) = true := by
          have h := HT.out
          rw [List.take_of_length_le (by rw [HL1.out]; omega), List.take_of_length_le (by rw [HL2.out]; omega)] at h
          exact decide_eq_true h
        have HRES := Lib.hid hres
        clear hres
        go_wp2_with fail
        go_ret
        rw [HRES.out]
        exact ⟨rfl, by (repeat (first | exact Below.refl _ _ | assumption | refine Below.trans ?_ (Below.mono (by assumption) (by first | omega | (simp; done) | (simp; omega))) | refine Below.alloc ?_ (by first | omega | (simp; done) | (simp; omega)) _ | refine Below.setCell ?_ (by first | omega | (simp; done) | (simp; omega)) _ | refine Below.drew ?_ | refine below_drewN ?_ _))⟩
  · have hb : (n1 != n2) = true := by simpa using hne
    have hres : decide (l1 = l2) = false := decide_eq_false (fun e => hne (by rw [← hl1, ← hl2, e]))
    have HRES := Lib.hid hres
    have hb2 : ((n1 : Int) != (n2 : Int)) = true := by simp; omega
    clear hres h1 h2 hl1 hl2
    go_enter Try.func18, Try.ntmps18
    go_wp2_with fail
    go_ret
    rw [HRES.out]
    exact ⟨rfl, by (repeat (first | exact Below.refl _ _ | assumption | refine Below.trans ?_ (Below.mono (by assumption) (by first | omega | (simp; done) | (simp; omega))) | refine Below.alloc ?_ (by first | omega | (simp; done) | (simp; omega)) _ | refine Below.setCell ?_ (by first | omega | (simp; done) | (simp; omega)) _ | refine Below.drew ?_ | refine below_drewN ?_ _))⟩

end Go.Proofs.Ytpdimehoepfgaaa
