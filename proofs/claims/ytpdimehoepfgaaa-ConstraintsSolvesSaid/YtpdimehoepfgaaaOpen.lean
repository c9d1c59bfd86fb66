/- Arguments opened: a slice of constraints, a slice of ints. -/
import Derived.Test.YtpdimehoepfgaaaRow
import Derived.Test.YtpdimehoepfgaaaGraph
import Derived.Deep.Slices
namespace Go.Proofs.Ytpdimehoepfgaaa
open Go.ChangeShapes Go.WideShapes Go.ChangeAt Go.RowKit Go.Deep

theorem list8 {α : Type} {l : List α} (h : l.length = 8) : ∃ a b c d e f g k, l = [a, b, c, d, e, f, g, k] := by
  match l, h with
  | [a, b, c, d, e, f, g, k], _ => exact ⟨a, b, c, d, e, f, g, k, rfl⟩

section
variable {H : Type} {enc : TypeId × Value → H} {w : World} {base : Nat} {spare : Nat → Bool} {held : Bool}

theorem Try.cellsCon : Try.prog.cellsOf 36 = 8 := by kernel_rfl
theorem Try.cellsTy3 : Try.prog.cellsOf 23 = 3 := by kernel_rfl
theorem Try.cellsInt : Try.prog.cellsOf 3 = 1 := by kernel_rfl
theorem Try.cellsStr : Try.prog.cellsOf 9 = 1 := by kernel_rfl

theorem open_con {fuel : Nat} {cs : List Value} {x : DataW H × List MemPlace} (h : DataW.trod enc Try.prog w base spare held fuel 36 cs = some x) : ∃ c : Con, cs = conCells c := by
  obtain ⟨xs, n, -, -, hl, hxl, hf⟩ := DataW.trod_struct Try.underlying36 h
  rw [Try.cellsCon] at hl
  obtain ⟨c0, c1, c2, c3, c4, c5, c6, c7, rfl⟩ := list8 hl
  have some_of : ∀ j, j < 6 → ∃ y, xs[j]? = some y := fun j hj => ⟨_, List.getElem?_eq_getElem (by rw [hxl]; exact hj)⟩
  have g0 := hf 0 _ rfl
  have g1 := hf 1 _ rfl
  have g2 := hf 2 _ rfl
  have g3 := hf 3 _ rfl
  have g4 := hf 4 _ rfl
  have g5 := hf 5 _ rfl
  obtain ⟨y0, e0⟩ := some_of 0 (by omega)
  obtain ⟨y1, e1⟩ := some_of 1 (by omega)
  obtain ⟨y2, e2⟩ := some_of 2 (by omega)
  obtain ⟨y3, e3⟩ := some_of 3 (by omega)
  obtain ⟨y4, e4⟩ := some_of 4 (by omega)
  obtain ⟨y5, e5⟩ := some_of 5 (by omega)
  rw [e0] at g0
  rw [e1] at g1
  rw [e2] at g2
  rw [e3] at g3
  rw [e4] at g4
  rw [e5] at g5
  simp [Try.cellsInt, Try.cellsTy3] at g0 g1 g2 g3 g4 g5
  obtain ⟨a0, k0, -, -⟩ := DataW.trod_int Try.underlying3 g0
  obtain ⟨a1, k1, -, -⟩ := DataW.trod_int Try.underlying3 g1
  obtain ⟨a2, k2, -, -⟩ := DataW.trod_int Try.underlying3 g2
  obtain ⟨a6, k6, -, -⟩ := DataW.trod_int Try.underlying3 g4
  obtain ⟨a7, k7, -, -⟩ := DataW.trod_int Try.underlying3 g5
  obtain ⟨zs, m, -, -, -, hzl, hz⟩ := DataW.trod_struct Try.underlying23 g3
  have some_z : ∀ j, j < 3 → ∃ y, zs[j]? = some y := fun j hj => ⟨_, List.getElem?_eq_getElem (by rw [hzl]; exact hj)⟩
  have t0 := hz 0 _ rfl
  have t1 := hz 1 _ rfl
  have t2 := hz 2 _ rfl
  obtain ⟨u0, f0⟩ := some_z 0 (by omega)
  obtain ⟨u1, f1⟩ := some_z 1 (by omega)
  obtain ⟨u2, f2⟩ := some_z 2 (by omega)
  rw [f0] at t0
  rw [f1] at t1
  rw [f2] at t2
  simp [Try.cellsInt, Try.cellsStr] at t0 t1 t2
  obtain ⟨a3, k3, -, -⟩ := DataW.trod_int Try.underlying3 t0
  obtain ⟨a4, k4, -, -⟩ := DataW.trod_int Try.underlying3 t1
  obtain ⟨a5, k5, -, -⟩ := DataW.trod_string Try.underlying9 t2
  simp only [List.cons.injEq, and_true] at k0 k1 k2 k3 k4 k5 k6 k7
  subst k0 k1 k2 k3 k4 k5 k6 k7
  exact ⟨⟨a0, a1, a2, a3, a4, a5, a6, a7⟩, rfl⟩

theorem choose_list {α : Type} {p : Nat → α → Prop} : ∀ m : Nat, (∀ i, i < m → ∃ x, p i x) → ∃ l : List α, l.length = m ∧ ∀ i x, l[i]? = some x → p i x := by
  intro m
  induction m with
  | zero => intro _; exact ⟨[], rfl, fun i x h => by simp at h⟩
  | succ m ih =>
    intro h
    obtain ⟨l, hl, hp⟩ := ih (fun i hi => h i (by omega))
    obtain ⟨x, hx⟩ := h m (by omega)
    refine ⟨l ++ [x], by simp [hl], fun i y hy => ?_⟩
    by_cases hi : i < l.length
    · rw [List.getElem?_append_left hi] at hy
      exact hp i y hy
    · rw [List.getElem?_append_right (by omega)] at hy
      have hi0 : i - l.length = 0 := by
        rcases Nat.eq_zero_or_pos (i - l.length) with h0 | h0
        · exact h0
        · rw [List.getElem?_eq_none (by simp; omega)] at hy
          cases hy
      rw [hi0] at hy
      simp at hy
      subst hy
      have : i = m := by omega
      subst this
      exact hx

/-- A slice of constraints that came in. -/
theorem open_cons {v : Value} {dt : DataW H} {p : List MemPlace} {A : Option Addr} {len cap : Nat} (hv : v = .slice A len cap) (h : DataW.Trod enc Try.prog w 0 (fun _ => true) true 26 v dt p) :
    ∃ l : List Con, l.length = len ∧ len ≤ cap ∧ cap ≤ maxLen ∧ RowAt 8 conCells w w.heap.size A l := by
  subst hv
  obtain ⟨fuel, hf⟩ := h
  rcases open_slice Try.underlying26 hf with ⟨hcs, _⟩ | ⟨a, len', cap', m, n, D, Pl, hcs, hb, hl, hm, hmm, hx, hi⟩
  · simp [Value.cells] at hcs
    obtain ⟨rfl, rfl, rfl⟩ := hcs
    exact ⟨[], rfl, Nat.le_refl _, by simp [maxLen], fun k c hk => by simp at hk⟩
  · simp [Value.cells] at hcs
    obtain ⟨rfl, rfl, rfl⟩ := hcs
    simp only [if_true] at hmm
    subst hmm
    rw [Try.cellsCon] at hi hx
    have hel : ∀ i, i < len → ∃ c : Con, ∀ j u, (conCells c)[j]? = some u → w.cell? (a.add (i * 8 + j)) = some u := fun i hil => by
      obtain ⟨cs', hc, ht⟩ := hi i (by omega)
      obtain ⟨c, rfl⟩ := open_con ht
      refine ⟨c, fun j u hj => ?_⟩
      have hj8 : j < 8 := by
        have := (List.getElem?_eq_some_iff.1 hj).1
        simpa [conCells] using this
      have := (World.cells?_some hc).2.2 j hj8
      rw [hj, Go.Deep.add_add] at this
      exact this
    obtain ⟨l, hll, hlp⟩ := choose_list len hel
    refine ⟨l, hll, hl, hm, fun k c hk => ?_⟩
    have hc := hlp k c hk
    obtain ⟨b, off, spot⟩ := a
    have hkl : k < l.length := (List.getElem?_eq_some_iff.1 hk).1
    have h0 := hlp 0 (l[0]'(by omega)) (List.getElem?_eq_getElem (by omega)) 0 _ rfl
    have hspot : spot = none := by simpa [Addr.add] using World.cell?_spot h0
    subst hspot
    have hbl : b < w.heap.size := by
      rcases Nat.lt_or_ge b w.heap.size with h1 | h1
      · exact h1
      · rw [Addr.add_lit] at h0
        simp [World.cell?, Array.getElem?_eq_none h1] at h0
    refine ⟨b, off, rfl, hbl, fun j u hj => ?_⟩
    have h1 := hc j u hj
    rw [Addr.add_lit, ← Nat.add_assoc] at h1
    exact h1
end

end Go.Proofs.Ytpdimehoepfgaaa
