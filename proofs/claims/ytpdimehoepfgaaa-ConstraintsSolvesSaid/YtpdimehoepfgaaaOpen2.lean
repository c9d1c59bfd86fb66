/- Arguments opened, with the bounds of an array's length; a slice of ints. -/
import Derived.Test.YtpdimehoepfgaaaOpen
namespace Go.Proofs.Ytpdimehoepfgaaa
open Go.ChangeShapes Go.WideShapes Go.ChangeAt Go.RowKit Go.Deep

section
variable {H : Type} {enc : TypeId × Value → H} {w : World} {base : Nat} {spare : Nat → Bool} {held : Bool}

theorem int_wf {n : Int} (h : (Lit.int .i64 n).wf = true) : n < 9223372036854775808 := by
  simp [Lit.wf] at h
  omega

theorem open_con_bound {fuel : Nat} {c : Con} {x : DataW H × List MemPlace} (h : DataW.trod enc Try.prog w base spare held fuel 36 (conCells c) = some x) : c.tl < 9223372036854775808 := by
  obtain ⟨xs, n, -, -, hl, hxl, hf⟩ := DataW.trod_struct Try.underlying36 h
  have g3 := hf 3 _ rfl
  obtain ⟨y3, e3⟩ : ∃ y, xs[3]? = some y := ⟨_, List.getElem?_eq_getElem (by rw [hxl]; simp)⟩
  rw [e3] at g3
  simp [Try.cellsTy3, conCells] at g3
  obtain ⟨zs, m, -, -, -, hzl, hz⟩ := DataW.trod_struct Try.underlying23 g3
  have t1 := hz 1 _ rfl
  obtain ⟨u1, f1⟩ : ∃ y, zs[1]? = some y := ⟨_, List.getElem?_eq_getElem (by rw [hzl]; simp)⟩
  rw [f1] at t1
  simp [Try.cellsInt] at t1
  obtain ⟨a4, k4, -, h4⟩ := DataW.trod_int Try.underlying3 t1
  simp only [List.cons.injEq, and_true] at k4
  cases k4
  exact int_wf h4

/-- A slice of constraints that came in. -/
theorem open_cons2 {v : Value} {dt : DataW H} {p : List MemPlace} {A : Option Addr} {len cap : Nat} (hv : v = .slice A len cap) (h : DataW.Trod enc Try.prog w 0 (fun _ => true) true 26 v dt p) :
    ∃ l : List Con, l.length = len ∧ len ≤ cap ∧ cap ≤ maxLen ∧ RowAt 8 conCells w w.heap.size A l ∧ ∀ c ∈ l, c.tl < 9223372036854775808 := by
  subst hv
  obtain ⟨fuel, hf⟩ := h
  rcases open_slice Try.underlying26 hf with ⟨hcs, _⟩ | ⟨a, len', cap', m, n, D, Pl, hcs, hb, hl, hm, hmm, hx, hi⟩
  · simp [Value.cells] at hcs
    obtain ⟨rfl, rfl, rfl⟩ := hcs
    exact ⟨[], rfl, Nat.le_refl _, by simp [maxLen], fun k c hk => by simp at hk, fun c hc => by cases hc⟩
  · simp [Value.cells] at hcs
    obtain ⟨rfl, rfl, rfl⟩ := hcs
    simp only [if_true] at hmm
    subst hmm
    rw [Try.cellsCon] at hi hx
    have hel : ∀ i, i < len → ∃ c : Con, c.tl < 9223372036854775808 ∧ ∀ j u, (conCells c)[j]? = some u → w.cell? (a.add (i * 8 + j)) = some u := fun i hil => by
      obtain ⟨cs', hc, ht⟩ := hi i (by omega)
      obtain ⟨c, rfl⟩ := open_con ht
      refine ⟨c, open_con_bound ht, fun j u hj => ?_⟩
      have hj8 : j < 8 := by
        have := (List.getElem?_eq_some_iff.1 hj).1
        simpa [conCells] using this
      have := (World.cells?_some hc).2.2 j hj8
      rw [hj, Go.Deep.add_add] at this
      exact this
    obtain ⟨l, hll, hlp0⟩ := choose_list len hel
    have hlp := fun i x h => (hlp0 i x h).2
    refine ⟨l, hll, hl, hm, fun k c hk => ?_, fun c hc => ?_⟩
    · have hc := hlp k c hk
      obtain ⟨b, off, spot⟩ := a
      have hkl : k < l.length := (List.getElem?_eq_some_iff.1 hk).1
      have h0 := hlp 0 (l[0]'(by omega)) (List.getElem?_eq_getElem (by omega)) 0 _ rfl
      have hspot : spot = none := by simpa [Addr.add] using World.cell?_spot h0
      subst hspot
      have hbl : b < w.heap.size := by
        rcases Nat.lt_or_ge b w.heap.size with h1 | h1
        · exact h1
        · rw [Addr.add_lit] at h0
          simp [World.cell?, Array.getElem?_eq_none h1] at h0
      refine ⟨b, off, rfl, hbl, fun j u hj => ?_⟩
      have h1 := hc j u hj
      rw [Addr.add_lit, ← Nat.add_assoc] at h1
      exact h1
    · obtain ⟨i, hi, rfl⟩ := List.getElem_of_mem hc
      exact (hlp0 i _ (List.getElem?_eq_getElem hi)).1

/-- A slice of ints that came in. -/
theorem open_ints2 {v : Value} {dt : DataW H} {p : List MemPlace} {A : Option Addr} {len cap : Nat} (hv : v = .slice A len cap) (h : DataW.Trod enc Try.prog w 0 (fun _ => true) true 33 v dt p) :
    ∃ l : List Int, l.length = len ∧ len ≤ cap ∧ cap ≤ maxLen ∧ RowAt 1 (fun z => [Value.int .i64 z]) w w.heap.size A l := by
  subst hv
  obtain ⟨fuel, hf⟩ := h
  rcases open_slice Try.underlying33 hf with ⟨hcs, _⟩ | ⟨a, len', cap', m, n, D, Pl, hcs, hb, hl, hm, hmm, hx, hi⟩
  · simp [Value.cells] at hcs
    obtain ⟨rfl, rfl, rfl⟩ := hcs
    exact ⟨[], rfl, Nat.le_refl _, by simp [maxLen], fun k c hk => by simp at hk⟩
  · simp [Value.cells] at hcs
    obtain ⟨rfl, rfl, rfl⟩ := hcs
    simp only [if_true] at hmm
    subst hmm
    rw [Try.cellsInt] at hi hx
    have hel : ∀ i, i < len → ∃ c : Int, w.cell? (a.add i) = some (.int .i64 c) := fun i hil => by
      obtain ⟨cs', hc, ht⟩ := hi i (by omega)
      obtain ⟨c, rfl, -, -⟩ := DataW.trod_int Try.underlying3 ht
      refine ⟨c, ?_⟩
      have := (World.cells?_some hc).2.2 0 (by omega)
      rw [Go.Deep.add_add] at this
      simpa using this
    obtain ⟨l, hll, hlp⟩ := choose_list len hel
    refine ⟨l, hll, hl, hm, fun k c hk => ?_⟩
    have hc := hlp k c hk
    obtain ⟨b, off, spot⟩ := a
    have hkl : k < l.length := (List.getElem?_eq_some_iff.1 hk).1
    have h0 := hlp 0 (l[0]'(by omega)) (List.getElem?_eq_getElem (by omega))
    have hspot : spot = none := by simpa [Addr.add] using World.cell?_spot h0
    subst hspot
    rw [Addr.add_lit] at hc
    have hbl : b < w.heap.size := by
      rcases Nat.lt_or_ge b w.heap.size with h1 | h1
      · exact h1
      · simp [World.cell?, Array.getElem?_eq_none h1] at hc
    refine ⟨b, off, rfl, hbl, fun j u hj => ?_⟩
    cases j with
    | zero =>
      simp at hj
      subst hj
      simpa using hc
    | succ j => simp at hj
end

end Go.Proofs.Ytpdimehoepfgaaa
