/- What Solve fills while it goes over the vertices: the types, the marks of what was seen, the chains. -/
import Derived.Test.YtpdimehoepfgaaaMk
namespace Go.Proofs.Ytpdimehoepfgaaa
open Go.RowKit

def BoolsBlk (w : World) (g : Nat) (l : List Bool) : Prop := Blk w g 4 (l.map Value.bool).toArray

theorem BoolsBlk.cell {w : World} {g : Nat} {l : List Bool} (h : BoolsBlk w g l) {i : Nat} (hi : i < l.length) : w.cell? ⟨g, i, none⟩ = some (.bool (l.getD i false)) := by
  rw [Blk.cell h i]
  simp [List.getElem?_eq_getElem hi]

theorem BoolsBlk.set {w : World} {g : Nat} {l : List Bool} (h : BoolsBlk w g l) (i : Nat) (b : Bool) : BoolsBlk (w.setCell ⟨g, i, none⟩ (.bool b)) g (l.set i b) := by
  have := Blk.set_ h i (.bool b)
  unfold BoolsBlk
  simpa [List.map_set] using this

theorem flat_set (x : Ty) : ∀ (l : List Ty) (i : Nat), i < l.length → (((l.flatMap tyCells).set (i * 3) (.int .i64 x.k)).set (i * 3 + 1) (.int .i64 x.n)).set (i * 3 + 2) (.string x.r) = (l.set i x).flatMap tyCells := by
  intro l
  induction l with
  | nil => intro i h; simp at h
  | cons y l ih =>
    intro i h
    cases i with
    | zero => simp [tyCells]
    | succ i =>
      have e := ih i (by simpa using h)
      rw [List.set_cons_succ, List.flatMap_cons, List.flatMap_cons, ← e, show (i + 1) * 3 = i * 3 + 3 by omega]
      simp [tyCells]

theorem TysBlk.set {w : World} {g : Nat} {l : List Ty} (h : TysBlk w g l) {i : Nat} (hi : i < l.length) (x : Ty) :
    TysBlk (((w.setCell ⟨g, i * 3, none⟩ (.int .i64 x.k)).setCell ⟨g, i * 3 + 1, none⟩ (.int .i64 x.n)).setCell ⟨g, i * 3 + 2, none⟩ (.string x.r)) g (l.set i x) := by
  have h1 := ((Blk.set_ h (i * 3) (.int .i64 x.k)).set_ (i * 3 + 1) (.int .i64 x.n)).set_ (i * 3 + 2) (.string x.r)
  unfold TysBlk
  rw [← flat_set x l i hi]
  simpa using h1

theorem ivs_flat' (l : List Int) : ivs l = l.flatMap fun z => [Value.int .i64 z] := by
  induction l with
  | nil => rfl
  | cons x l ih => rw [List.flatMap_cons, ← ih]; rfl

/-- The chains so far: a slice of the call's own of slices of the call's own. -/
def ChainsOwn (w : World) (base : Nat) (v : Value) (chs : List (List Int)) : Prop :=
  ∃ vals : List Value, OwnS w base 33 1 v chs.length vals ∧ ∀ (j : Nat) (ch : List Int), chs[j]? = some ch → ∃ x, vals[j]? = some x ∧ OwnS w base 3 1 x ch.length (ivs ch)

theorem ChainsOwn.nil (w : World) (base : Nat) : ChainsOwn w base (.slice none 0 0) [] := ⟨[], OwnS.nil _ _ _ _, fun j ch h => by simp at h⟩

theorem ChainsOwn.since {S : Nat → Prop} {w w' : World} {base : Nat} {v : Value} {chs : List (List Int)} (h : ChainsOwn w base v chs) (hs : Since S w w') (hS : ∀ g, S g → g < base) : ChainsOwn w' base v chs := by
  obtain ⟨vals, h1, h2⟩ := h
  refine ⟨vals, h1.since hs (fun g hg h3 => by have := hS g h3; have := (h1.lt g hg).1; omega), fun j ch hj => ?_⟩
  obtain ⟨x, hx, ho⟩ := h2 j ch hj
  exact ⟨x, hx, ho.since hs (fun g hg h3 => by have := hS g h3; have := (ho.lt g hg).1; omega)⟩

theorem ChainsOwn.push {w w1 : World} {base : Nat} {v v' x : Value} {chs : List (List Int)} {ch : List Int} {vals : List Value} (h1 : OwnS w base 33 1 v chs.length vals)
    (h2 : ∀ (j : Nat) (ch : List Int), chs[j]? = some ch → ∃ x, vals[j]? = some x ∧ OwnS w base 3 1 x ch.length (ivs ch)) (hx : OwnS w base 3 1 x ch.length (ivs ch))
    (hk : ∀ k, k < w.heap.size → some k ≠ v.ownBlock → w1.heap[k]? = w.heap[k]?) (hown : OwnS w1 base 33 1 v' (chs.length + 1) (vals ++ [x])) : ChainsOwn w1 base v' (chs ++ [ch]) := by
  have hvl : vals.length = chs.length := by have := h1.1; simpa using this
  have keep : ∀ (y : Value) (c : List Int), OwnS w base 3 1 y c.length (ivs c) → OwnS w1 base 3 1 y c.length (ivs c) := fun y c ho =>
    ho.of_block fun g hg => hk g (ho.lt g hg).2 (fun e1 => h1.apart ho (by decide) g e1.symm hg)
  refine ⟨vals ++ [x], by simpa using hown, fun j c hj => ?_⟩
  by_cases hlt : j < chs.length
  · rw [List.getElem?_append_left hlt] at hj
    obtain ⟨y, hy, ho⟩ := h2 j c hj
    exact ⟨y, by rw [List.getElem?_append_left (by omega)]; exact hy, keep y c ho⟩
  · rw [List.getElem?_append_right (by omega)] at hj
    have hj0 : j - chs.length = 0 := by
      rcases Nat.eq_zero_or_pos (j - chs.length) with h0 | h0
      · exact h0
      · rw [List.getElem?_eq_none (by simp; omega)] at hj
        cases hj
    rw [hj0] at hj
    simp at hj
    subst hj
    refine ⟨x, ?_, keep x ch hx⟩
    rw [List.getElem?_append_right (by omega), hvl, hj0]
    rfl

theorem ChainsOwn.read {w : World} {base : Nat} {v : Value} {chs : List (List Int)} (h : ChainsOwn w base v chs) : ∃ A c, v = .slice A chs.length c ∧ ChainsAt w w.heap.size A chs := by
  obtain ⟨vals, h1, h2⟩ := h
  obtain ⟨A, c, hA, _, _⟩ := h1.shape
  refine ⟨A, c, hA, fun k ch hk => ?_⟩
  obtain ⟨x, hx, ho⟩ := h2 k ch hk
  have hkl : k < chs.length := (List.getElem?_eq_some_iff.1 hk).1
  obtain ⟨g, off, cap, hv, _, _, _, hlt, hc⟩ := h1.form (by omega)
  rw [hA] at hv
  cases hv
  obtain ⟨Ai, ci, hAi, hci, _⟩ := ho.shape
  refine ⟨g, off, Ai, ci, rfl, hlt, by rw [hc k x hx, hAi], hci, ho.rowAt hAi (ivs_flat' ch) (by intro c _; rfl) rfl⟩

end Go.Proofs.Ytpdimehoepfgaaa
