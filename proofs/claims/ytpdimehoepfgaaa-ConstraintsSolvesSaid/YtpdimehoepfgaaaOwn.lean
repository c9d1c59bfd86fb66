/- Rows of rows of the call's own: the edges and the marks while they are collected. -/
import Derived.Test.YtpdimehoepfgaaaGraph
namespace Go.Proofs.Ytpdimehoepfgaaa
open Go.RowKit

/-- But for the blocks in S nothing that was there has turned. -/
structure Since (S : Nat → Prop) (w w' : World) : Prop where
  os : w'.os = w.os
  tape : w'.tape = w.tape
  output : w'.output = w.output
  size : w.heap.size ≤ w'.heap.size
  block : ∀ k, k < w.heap.size → ¬ S k → w'.heap[k]? = w.heap[k]?

section
variable {S : Nat → Prop} {a w w' : World}
theorem Since.refl (S : Nat → Prop) (w : World) : Since S w w := ⟨rfl, rfl, rfl, Nat.le_refl _, fun _ _ _ => rfl⟩
theorem Since.trans {b c : World} (h : Since S a b) (k : Since S b c) : Since S a c :=
  ⟨k.os.trans h.os, k.tape.trans h.tape, k.output.trans h.output, Nat.le_trans h.size k.size, fun i hi hs => (k.block i (Nat.lt_of_lt_of_le hi h.size) hs).trans (h.block i hi hs)⟩
theorem Since.drew (h : Since S a w) : Since S a w.drew := ⟨h.os, h.tape, h.output, h.size, h.block⟩
theorem Since.drewN (h : Since S a w) (n : Nat) : Since S a (w.drewN n) := ⟨h.os, h.tape, h.output, h.size, h.block⟩
theorem Since.alloc (h : Since S a w) (o : Obj) : Since S a (w.alloc o) :=
  ⟨h.os, h.tape, h.output, Nat.le_trans h.size (by simp), fun i hi hs => (Below.heap_alloc w o i (Nat.lt_of_lt_of_le hi h.size)).trans (h.block i hi hs)⟩
theorem Since.setCell (h : Since S a w) {p : Addr} (hp : S p.block ∨ a.heap.size ≤ p.block) (u : Value) : Since S a (w.setCell p u) :=
  ⟨h.os, h.tape, h.output, by simpa [World.setCell] using h.size, fun i hi hs => (Below.heap_setCell w p u i (by
    rintro rfl
    rcases hp with hp | hp
    · exact hs hp
    · omega)).trans (h.block i hi hs)⟩
theorem Since.grown {row : Option Nat} (h : Since S a w) (hg : w.grownBy w' row) (hr : ∀ k, row = some k → S k ∨ a.heap.size ≤ k) : Since S a w' :=
  ⟨hg.os.trans h.os, hg.tape.trans h.tape, hg.output.trans h.output, Nat.le_trans h.size hg.size, fun i hi hs => (hg.block i (Nat.lt_of_lt_of_le hi h.size) (fun e => by
    rcases hr i e.symm with h1 | h1
    · exact hs h1
    · omega)).trans (h.block i hi hs)⟩
theorem Since.below (h : Since S a w) (hb : Below w.heap.size w w') : Since S a w' :=
  ⟨hb.os.trans h.os, hb.tape.trans h.tape, hb.output.trans h.output, Nat.le_trans h.size hb.size, fun i hi hs => (hb.block i (Nat.lt_of_lt_of_le hi h.size)).trans (h.block i hi hs)⟩
theorem Since.toBelow {B : Nat} (h : Since S a w) (hB : B ≤ a.heap.size) (hS : ∀ k, S k → B ≤ k) : Below B a w :=
  ⟨h.os, h.tape, h.output, h.size, fun i hi => h.block i (by omega) (fun hs => by have := hS i hs; omega)⟩
theorem Since.mono {S' : Nat → Prop} (h : Since S a w) (hS : ∀ k, S k → S' k) : Since S' a w := ⟨h.os, h.tape, h.output, h.size, fun i hi hs => h.block i hi (fun h1 => hs (hS i h1))⟩
theorem Blk.since {g : Nat} {t : TypeId} {cs : Array Value} (h : Blk w g t cs) (hs : Since S w w') (hg : ¬ S g) : Blk w' g t cs := h.keep (hs.block g h.lt hg)
theorem OwnS.since {base : Nat} {e : TypeId} {size : Nat} {v : Value} {n : Nat} {xs : List Value} (h : OwnS w base e size v n xs) (hs : Since S w w') (hS : ∀ g, v.ownBlock = some g → ¬ S g) : OwnS w' base e size v n xs :=
  h.of_block fun g hv => hs.block g (h.lt g hv).2 (hS g hv)
theorem IMap.since {r : Nat} {f : Int → Option Value} (h : IMap w r f) (hs : Since S w w') (hg : ¬ S r) : IMap w' r f := h.keep (hs.block r h.lt hg)
end

/-- Rows of other elements lie in other blocks. -/
theorem OwnS.apart {w : World} {base base' : Nat} {e e' : TypeId} {size size' : Nat} {v v' : Value} {n n' : Nat} {xs xs' : List Value} (h : OwnS w base e size v n xs) (h' : OwnS w base' e' size' v' n' xs') (hne : e ≠ e') :
    ∀ g, v.ownBlock = some g → v'.ownBlock ≠ some g := by
  intro g hv hv'
  rcases h.2 with ⟨rfl, _⟩ | ⟨g1, off1, cap1, cur1, rfl, _, hg1, _⟩
  · cases hv
  · rcases h'.2 with ⟨rfl, _⟩ | ⟨g2, off2, cap2, cur2, rfl, _, hg2, _⟩
    · cases hv'
    · simp [Value.ownBlock] at hv hv'
      subst hv
      subst hv'
      rw [hg1] at hg2
      simp at hg2
      exact hne hg2.2

/-- A row of rows: block ge holds slices, each of which owns its edges, no two in one block. -/
def EdgesOwn (w : World) (base ge : Nat) (E : List (List Edge)) : Prop :=
  ∃ vals : List Value, Blk w ge 53 vals.toArray ∧ vals.length = E.length ∧
    (∀ (v : Nat) (es : List Edge), E[v]? = some es → ∃ x, vals[v]? = some x ∧ OwnS w base 55 2 x es.length (es.flatMap edgeCells)) ∧
    (∀ (u v : Nat) (x y : Value), u ≠ v → vals[u]? = some x → vals[v]? = some y → ∀ g, x.ownBlock = some g → y.ownBlock ≠ some g)

theorem EdgesOwn.kept {w w' : World} {base ge : Nat} {E : List (List Edge)} (h : EdgesOwn w base ge E) (hk : ∀ g, (g = ge ∨ base ≤ g) → g < w.heap.size → w'.heap[g]? = w.heap[g]?) : EdgesOwn w' base ge E := by
  obtain ⟨vals, h1, h2, h3, h4⟩ := h
  refine ⟨vals, h1.keep (hk ge (.inl rfl) h1.lt), h2, fun v es hv => ?_, h4⟩
  obtain ⟨x, hx, ho⟩ := h3 v es hv
  exact ⟨x, hx, ho.of_block fun g hg => hk g (.inr (ho.lt g hg).1) (ho.lt g hg).2⟩

theorem EdgesOwn.since {S : Nat → Prop} {w w' : World} {base ge : Nat} {E : List (List Edge)} (h : EdgesOwn w base ge E) (hs : Since S w w') (hS : ∀ g, S g → g ≠ ge ∧ g < base) : EdgesOwn w' base ge E :=
  h.kept fun g hg hlt => hs.block g hlt (fun h1 => by have := hS g h1; omega)

/-- What stands at v, and how it is put back. -/
theorem EdgesOwn.at {w : World} {base ge : Nat} {E : List (List Edge)} (h : EdgesOwn w base ge E) {v : Nat} {es : List Edge} (hv : E[v]? = some es) :
    ∃ x, w.cell? ⟨ge, v, none⟩ = some x ∧ w.frozen? ⟨ge, v, none⟩ = false ∧ ge < w.heap.size ∧ OwnS w base 55 2 x es.length (es.flatMap edgeCells) ∧
      ∀ (w1 : World) (x' : Value) (e : Edge), (∀ k, k < w.heap.size → some k ≠ x.ownBlock → w1.heap[k]? = w.heap[k]?) → w.heap.size ≤ w1.heap.size →
        OwnS w1 base 55 2 x' (es.length + 1) (es.flatMap edgeCells ++ edgeCells e) → (x'.ownBlock = x.ownBlock ∨ ∃ g, x'.ownBlock = some g ∧ w.heap.size ≤ g) → ge < base →
        EdgesOwn (w1.setCell ⟨ge, v, none⟩ x') base ge (E.set v (es ++ [e])) := by
  obtain ⟨vals, h1, h2, h3, h4⟩ := h
  obtain ⟨x, hx, ho⟩ := h3 v es hv
  have hvl : v < vals.length := (List.getElem?_eq_some_iff.1 hx).1
  refine ⟨x, ?_, h1.frozen v, h1.lt, ho, ?_⟩
  · rw [h1.cell v]
    simpa using hx
  · intro w1 x' e hk hsz hown hat hge
    have hgx : some ge ≠ x.ownBlock := fun e1 => by have := (ho.lt ge e1.symm).1; omega
    have hb1 : Blk w1 ge 53 vals.toArray := h1.keep (hk ge h1.lt hgx)
    have hx'g : x'.ownBlock ≠ some ge := fun e1 => by have := (hown.lt ge e1).1; omega
    have hold : ∀ u y es', u ≠ v → vals[u]? = some y → OwnS w base 55 2 y es'.length (List.flatMap edgeCells es') → OwnS w1 base 55 2 y es'.length (List.flatMap edgeCells es') := fun u y es' hu hy hoy =>
      hoy.of_block fun g hg => hk g (hoy.lt g hg).2 (fun e1 => h4 u v y x hu hy hx g hg e1.symm)
    refine ⟨vals.set v x', ?_, by simpa using h2, fun u es' hu => ?_, fun u u' y y' hne hy hy' g hg => ?_⟩
    · have := hb1.set_ v x'
      simpa using this
    · rw [List.getElem?_set] at hu
      by_cases huv : v = u
      · subst huv
        rw [if_pos rfl] at hu
        have hvE : v < E.length := (List.getElem?_eq_some_iff.1 hv).1
        rw [if_pos hvE] at hu
        cases hu
        refine ⟨x', by simp [hvl], ?_⟩
        have hoo : OwnS w1 base 55 2 x' (es ++ [e]).length ((es ++ [e]).flatMap edgeCells) := by
          rw [List.length_append, List.flatMap_append]
          simpa using hown
        exact hoo.setCell hx'g _
      · rw [if_neg huv] at hu
        obtain ⟨y, hy, hoy⟩ := h3 u es' hu
        refine ⟨y, by rw [List.getElem?_set, if_neg huv]; exact hy, (hold u y es' (Ne.symm huv) hy hoy).setCell (fun e1 => ?_) _⟩
        have := (hoy.lt ge e1).1
        omega
    · rw [List.getElem?_set] at hy hy'
      have key : ∀ (u : Nat) (y : Value), u ≠ v → vals[u]? = some y → ∀ g, y.ownBlock = some g → x'.ownBlock ≠ some g := fun u y hu hy g hg e1 => by
        have huE : u < E.length := by rw [← h2]; exact (List.getElem?_eq_some_iff.1 hy).1
        obtain ⟨y2, hy2, hoy⟩ := h3 u E[u] (List.getElem?_eq_getElem huE)
        rw [hy] at hy2
        cases hy2
        rcases hat with h5 | ⟨g5, h5, h6⟩
        · rw [h5] at e1
          exact h4 u v y x hu hy hx g hg e1
        · rw [h5] at e1
          cases e1
          have := (hoy.lt g hg).2
          omega
      by_cases hu : v = u
      · subst hu
        rw [if_pos rfl, if_pos hvl] at hy
        cases hy
        rw [if_neg hne] at hy'
        intro e1
        exact key u' y' (fun e2 => hne e2.symm) hy' g e1 hg
      · rw [if_neg hu] at hy
        by_cases hu' : v = u'
        · subst hu'
          rw [if_pos rfl, if_pos hvl] at hy'
          cases hy'
          exact key u y (fun e2 => hu e2.symm) hy g hg
        · rw [if_neg hu'] at hy'
          exact h4 u u' y y' hne hy hy' g hg

/-- Read only. -/
theorem EdgesOwn.read {w : World} {base ge : Nat} {E : List (List Edge)} (h : EdgesOwn w base ge E) : EdgesAt w w.heap.size (some ⟨ge, 0, none⟩) E := by
  obtain ⟨vals, h1, h2, h3, h4⟩ := h
  intro v es hv
  obtain ⟨x, hx, ho⟩ := h3 v es hv
  obtain ⟨A, c, hA, _, _⟩ := ho.shape
  refine ⟨ge, 0, A, c, rfl, h1.lt, ?_, ho.rowAt hA rfl (by intro c _; rfl) rfl⟩
  rw [Nat.zero_add, h1.cell v, ← hA]
  simpa using hx

/-- A map of slices of indices of the call's own, no two in one block. -/
def MarksOwn (w : World) (base r : Nat) (M : Nat → List Nat) : Prop :=
  ∃ f, IMap w r f ∧ (∀ v : Nat, OwnS w base 3 1 ((f v).getD (.slice none 0 0)) (M v).length (ivs ((M v).map fun x : Nat => (x : Int)))) ∧
    (∀ u v : Nat, u ≠ v → ∀ g, ((f u).getD (.slice none 0 0)).ownBlock = some g → ((f v).getD (.slice none 0 0)).ownBlock ≠ some g)

theorem MarksOwn.kept {w w' : World} {base r : Nat} {M : Nat → List Nat} (h : MarksOwn w base r M) (hk : ∀ g, (g = r ∨ base ≤ g) → g < w.heap.size → w'.heap[g]? = w.heap[g]?) : MarksOwn w' base r M := by
  obtain ⟨f, h1, h2, h3⟩ := h
  exact ⟨f, h1.keep (hk r (.inl rfl) h1.lt), fun v => (h2 v).of_block fun g hg => hk g (.inr ((h2 v).lt g hg).1) ((h2 v).lt g hg).2, h3⟩

theorem MarksOwn.since {S : Nat → Prop} {w w' : World} {base r : Nat} {M : Nat → List Nat} (h : MarksOwn w base r M) (hs : Since S w w') (hS : ∀ g, S g → g ≠ r ∧ g < base) : MarksOwn w' base r M :=
  h.kept fun g hg hlt => hs.block g hlt (fun h1 => by have := hS g h1; omega)

/-- Only rows of other elements, and new blocks, have turned. -/
theorem MarksOwn.grown {w w' : World} {base r : Nat} {M : Nat → List Nat} (h : MarksOwn w base r M) {x : Value} {n : Nat} {xs : List Value} {base' : Nat} {e : TypeId} {size : Nat} (hx : OwnS w base' e size x n xs) (hne : e ≠ 3)
    (hk : ∀ k, k < w.heap.size → some k ≠ x.ownBlock → w'.heap[k]? = w.heap[k]?) (hr : x.ownBlock ≠ some r) : MarksOwn w' base r M := by
  obtain ⟨f, h1, h2, h3⟩ := h
  refine ⟨f, h1.keep (hk r h1.lt (fun e1 => hr e1.symm)), fun v => (h2 v).of_block fun g hg => hk g ((h2 v).lt g hg).2 (fun e1 => ?_), h3⟩
  exact hx.apart (h2 v) hne g e1.symm hg

theorem EdgesOwn.grown {w w' : World} {base ge : Nat} {E : List (List Edge)} (h : EdgesOwn w base ge E) {x : Value} {n : Nat} {xs : List Value} {base' : Nat} {e : TypeId} {size : Nat} (hx : OwnS w base' e size x n xs) (hne : e ≠ 55)
    (hk : ∀ k, k < w.heap.size → some k ≠ x.ownBlock → w'.heap[k]? = w.heap[k]?) (hr : x.ownBlock ≠ some ge) : EdgesOwn w' base ge E := by
  obtain ⟨vals, h1, h2, h3, h4⟩ := h
  refine ⟨vals, h1.keep (hk ge h1.lt (fun e1 => hr e1.symm)), h2, fun v es hv => ?_, h4⟩
  obtain ⟨y, hy, ho⟩ := h3 v es hv
  exact ⟨y, hy, ho.of_block fun g hg => hk g (ho.lt g hg).2 (fun e1 => hx.apart ho hne g e1.symm hg)⟩

/-- What stands at v, and how it is put back. -/
theorem MarksOwn.at {w : World} {base r : Nat} {M : Nat → List Nat} (h : MarksOwn w base r M) (v : Nat) :
    ∃ f, IMap w r f ∧ OwnS w base 3 1 ((f v).getD (.slice none 0 0)) (M v).length (ivs ((M v).map fun x : Nat => (x : Int))) ∧ r < w.heap.size ∧
      ∀ (w1 : World) (x' : Value) (i : Nat), (∀ k, k < w.heap.size → some k ≠ ((f v).getD (.slice none 0 0)).ownBlock → some k ≠ some r → w1.heap[k]? = w.heap[k]?) → w.heap.size ≤ w1.heap.size →
        OwnS w1 base 3 1 x' ((M v).length + 1) (ivs ((M v).map fun x : Nat => (x : Int)) ++ [.int .i64 (i : Int)]) → (x'.ownBlock = ((f v).getD (.slice none 0 0)).ownBlock ∨ ∃ g, x'.ownBlock = some g ∧ w.heap.size ≤ g) →
        IMap w1 r (fun j => if j = (v : Int) then some x' else f j) → r < base → MarksOwn w1 base r (fun u => if u = v then M v ++ [i] else M u) := by
  obtain ⟨f, h1, h2, h3⟩ := h
  refine ⟨f, h1, h2 v, h1.lt, ?_⟩
  intro w1 x' i hk hsz hown hat hmap hr
  have hnv : ∀ u : Nat, u ≠ v → ((u : Int) = (v : Int)) = False := fun u hu => eq_false (by omega)
  have hrb : ∀ u : Nat, ((f u).getD (.slice none 0 0)).ownBlock ≠ some r := fun u e1 => by have := ((h2 u).lt r e1).1; omega
  refine ⟨_, hmap, fun u => ?_, fun u u' hne g hg => ?_⟩
  · by_cases hu : u = v
    · subst hu
      simpa [ivs] using hown
    · simp only [hnv u hu, if_false, if_neg hu]
      exact (h2 u).of_block fun g hg => hk g ((h2 u).lt g hg).2 (fun e1 => h3 u v hu g hg e1.symm) (fun e1 => hrb u (by rw [hg, e1]))
  · have key : ∀ u : Nat, u ≠ v → ∀ g, ((f u).getD (.slice none 0 0)).ownBlock = some g → x'.ownBlock ≠ some g := fun u hu g hg e1 => by
      rcases hat with h5 | ⟨g5, h5, h6⟩
      · rw [h5] at e1
        exact h3 u v hu g hg e1
      · rw [h5] at e1
        cases e1
        have := ((h2 u).lt g hg).2
        omega
    by_cases hu : u = v
    · subst hu
      have hu' : u' ≠ u := fun e1 => hne e1.symm
      simp only [if_true, hnv u' hu', if_false] at hg ⊢
      exact fun e1 => key u' hu' g e1 (by simpa using hg)
    · simp only [hnv u hu, if_false] at hg
      by_cases hu' : u' = v
      · subst hu'
        simp only [if_true]
        exact key u hu g hg
      · simp only [hnv u' hu', if_false]
        exact h3 u u' hne g hg

theorem MarksOwn.read {w : World} {base r : Nat} {M : Nat → List Nat} (h : MarksOwn w base r M) : MarksAt w w.heap.size r M := by
  obtain ⟨f, h1, h2, h3⟩ := h
  refine ⟨h1.lt, f, h1, fun v => ?_⟩
  obtain ⟨A, c, hA, _, _⟩ := (h2 v).shape
  exact ⟨A, c, hA, (h2 v).rowAt hA (ivs_flat _) (by intro c _; rfl) rfl⟩

end Go.Proofs.Ytpdimehoepfgaaa
