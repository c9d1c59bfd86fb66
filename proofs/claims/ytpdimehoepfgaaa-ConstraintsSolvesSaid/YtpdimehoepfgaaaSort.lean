/- slices.Sort at ints, on a slice of the call's own. -/
import Derived.Test.YtpdimehoepfgaaaShelf
import Derived.Test.YtpdimehoepfgaaaInts
namespace Go.Proofs.Ytpdimehoepfgaaa
open Go.RowKit Go.Sort

theorem sortI (zs : List Int) : (zs.mergeSort fun x y => decide (x ≤ y)).length = zs.length := List.length_mergeSort _

theorem Sort_any (v : Value) (base n : Nat) (zs : List Int) (w : World) (h : OwnS w base 3 1 v n (ivs zs)) (hn : n ≤ 1000000) :
    Calls Try.prog 29 #[v] w fun e w' => e = .returned (.tuple #[]) ∧ OwnS w' base 3 1 v n (ivs (zs.mergeSort fun x y => decide (x ≤ y))) ∧ w.grownBy w' v.ownBlock := by
  have hl : zs.length = n := by have := h.1; simpa using this
  by_cases h0 : n = 0
  · subst h0
    have hz : zs = [] := List.eq_nil_of_length_eq_zero hl
    subst hz
    obtain ⟨A, c, hA, _, _⟩ := h.shape
    subst hA
    refine (Try.slices_Sort_int_none A c w).mono ?_
    rintro e w' ⟨rfl, rfl⟩
    exact ⟨rfl, by simpa using h, ⟨rfl, rfl, rfl, Nat.le_refl _, fun _ _ _ => rfl⟩⟩
  · rcases h.2 with ⟨_, h1⟩ | ⟨g, off, cap, cur, rfl, hb, hg, hnc, hm, hs, ht⟩
    · omega
    · have hlt : g < w.heap.size := (Array.getElem?_eq_some_iff.1 hg).1
      have hH : Holds (Value.int .i64) w g off zs.toArray := by
        intro j hj
        have hj' : j < zs.length := by simpa using hj
        refine ⟨?_, by simp [World.frozen?, hg]⟩
        obtain ⟨g', off', cap', hv', _, _, _, _, hc⟩ := h.form (by omega)
        cases hv'
        refine hc j _ ?_
        simp [hj']
      rw [← hl]
      refine (Try.slices_Sort_int g off cap zs w hH hlt (by omega)).mono ?_
      rintro e w' ⟨rfl, q, os, rfl⟩
      have hheap : (grow (putRow (Value.int .i64) (Sort.ahead w q) g off (zs.mergeSort fun x y => decide (x ≤ y)).toArray) os).heap[g]? = some (.cells (putCells (Value.int .i64) off (zs.mergeSort fun x y => decide (x ≤ y)).toArray cur) 3 (0, 0)) := by
        rw [heap_grow_old _ _ (by simpa using hlt)]
        simp [putRow, mapBlock, Sort.ahead, Array.getElem?_modify, hg, onCells]
      refine ⟨rfl, ⟨by simp, .inr ⟨g, off, cap, _, rfl, hb, hheap, by omega, hm, by simp [putCells]; omega, ?_⟩⟩, ⟨rfl, rfl, rfl, by simp, fun k hk hne => ?_⟩⟩
      · apply List.ext_getElem?
        intro j
        by_cases hj : j < zs.length
        · rw [Nat.mul_one, List.getElem?_take_of_lt hj, List.getElem?_drop, Array.getElem?_toList]
          have h1 : off + j < cur.size := by omega
          simp [putCells, hj, h1]
        · rw [Nat.mul_one, List.getElem?_take_eq_none (by omega), List.getElem?_eq_none (by simp; omega)]
      · rw [heap_grow_old _ _ (by simpa using hk)]
        have hgk : g ≠ k := fun e => hne (by simp [Value.ownBlock, e])
        simp [putRow, mapBlock, Sort.ahead, Array.getElem?_modify, hgk]

end Go.Proofs.Ytpdimehoepfgaaa
