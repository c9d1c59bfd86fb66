/- The model of (graph).chain. -/
import Derived.Test.YtpdimehoepfgaaaGraph
import Derived.Test.YtpdimehoepfgaaaBfs
namespace Go.Proofs.Ytpdimehoepfgaaa

def tstep (far : List Int) (ok : Nat → Bool) (st : Int × List Nat) (v : Nat) : Int × List Nat :=
  if far.getD v 0 < 0 ∨ (0 ≤ st.1 ∧ st.1 < far.getD v 0) then st
  else if ok v = false then st
  else if st.1 < 0 ∨ far.getD v 0 < st.1 then (far.getD v 0, [v]) else (st.1, st.2 ++ [v])

def targetsM (far : List Int) (ok : Nat → Bool) (n : Nat) : Int × List Nat := (List.range n).foldl (tstep far ok) (-1, [])

def nstep (left : List Int) (v : Nat) (nx : Int × Int) (e : Edge) : Int × Int :=
  if left.getD e.to 0 = left.getD v 0 - 1 ∧ (nx.1 < 0 ∨ (e.con : Int) < nx.1) then ((e.con : Int), (e.to : Int)) else nx

def nextM (E : List (List Edge)) (left : List Int) (v : Nat) : Int × Int := (E.getD v []).foldl (nstep left v) (-1, 0)

def walkM (E : List (List Edge)) (left : List Int) : Nat → Nat → List Int → Nat × List Int
  | 0, v, out => (v, out)
  | f + 1, v, out => if 0 < left.getD v 0 then walkM E left f (nextM E left v).2.toNat (out ++ [(nextM E left v).1]) else (v, out)

def chainFrom (E : List (List Edge)) (n : Nat) (other : Nat → Option Nat) (i s0 : Nat) : Option (List Int) :=
  if (targetsM (distM E n [s0]) (fun v => (other v).isSome) n).1 < 0 then none
  else
    let left := distM E n (targetsM (distM E n [s0]) (fun v => (other v).isSome) n).2
    let wk := walkM E left (left.getD s0 0).toNat s0 [(i : Int)]
    some (wk.2 ++ [(((other wk.1).getD 0 : Nat) : Int)])

theorem targets_take (far : List Int) (ok : Nat → Bool) (k : Nat) : targetsM far ok (k + 1) = tstep far ok (targetsM far ok k) k := by
  unfold targetsM
  rw [List.range_succ, List.foldl_append]
  rfl

/-- The targets are vertices; there are some if the bound is not negative, and then they are as far as it says. -/
theorem targets_spec (far : List Int) (ok : Nat → Bool) (k : Nat) : (∀ v ∈ (targetsM far ok k).2, v < k ∧ ok v = true ∧ far.getD v 0 = (targetsM far ok k).1) ∧ ((targetsM far ok k).1 < 0 ↔ (targetsM far ok k).2 = []) ∧ (targetsM far ok k).2.length ≤ k ∧ -1 ≤ (targetsM far ok k).1 := by
  induction k with
  | zero => simp [targetsM]
  | succ k ih =>
    rw [targets_take]
    obtain ⟨h1, h2, h3, h4⟩ := ih
    generalize targetsM far ok k = st at *
    unfold tstep
    by_cases c1 : far.getD k 0 < 0 ∨ (0 ≤ st.1 ∧ st.1 < far.getD k 0)
    · rw [if_pos c1]
      exact ⟨fun v hv => ⟨by have := (h1 v hv).1; omega, (h1 v hv).2⟩, h2, by omega, h4⟩
    · rw [if_neg c1]
      by_cases c2 : ok k = false
      · rw [if_pos c2]
        exact ⟨fun v hv => ⟨by have := (h1 v hv).1; omega, (h1 v hv).2⟩, h2, by omega, h4⟩
      · rw [if_neg c2]
        have hk : ok k = true := by simpa using c2
        by_cases c3 : st.1 < 0 ∨ far.getD k 0 < st.1
        · rw [if_pos c3]
          refine ⟨fun v hv => ?_, ?_, by simp, by omega⟩
          · simp at hv
            subst hv
            exact ⟨by omega, hk, rfl⟩
          · show far.getD k 0 < 0 ↔ [k] = []
            exact ⟨fun h => by omega, fun h => by cases h⟩
        · rw [if_neg c3]
          refine ⟨fun v hv => ?_, ?_, by simp; omega, h4⟩
          · rcases List.mem_append.1 hv with hv | hv
            · exact ⟨by have := (h1 v hv).1; omega, (h1 v hv).2⟩
            · simp at hv
              subst hv
              exact ⟨by omega, hk, by omega⟩
          · show st.1 < 0 ↔ st.2 ++ [k] = []
            exact ⟨fun h => by omega, fun h => by simp at h⟩

/-- The next edge: it leads nearer, and is the least such. -/
theorem nfold_spec (left : List Int) (v : Nat) (es : List Edge) : ∀ (nx : Int × Int), (nx.1 < 0 ∨ ∃ e : Edge, nx = ((e.con : Int), (e.to : Int)) ∧ left.getD e.to 0 = left.getD v 0 - 1) →
    ((es.foldl (nstep left v) nx).1 < 0 ∧ nx.1 < 0 ∧ (∀ e ∈ es, left.getD e.to 0 ≠ left.getD v 0 - 1)) ∨
    (∃ e : Edge, es.foldl (nstep left v) nx = ((e.con : Int), (e.to : Int)) ∧ left.getD e.to 0 = left.getD v 0 - 1 ∧ (nx = ((e.con : Int), (e.to : Int)) ∨ e ∈ es) ∧ (0 ≤ nx.1 → (e.con : Int) ≤ nx.1) ∧ ∀ f ∈ es, left.getD f.to 0 = left.getD v 0 - 1 → e.con ≤ f.con) := by
  induction es with
  | nil =>
    intro nx h
    rcases h with h | ⟨e, rfl, he⟩
    · exact .inl ⟨h, h, by simp⟩
    · exact .inr ⟨e, rfl, he, .inl rfl, fun _ => Int.le_refl _, by simp⟩
  | cons x es ih =>
    intro nx h
    rw [List.foldl_cons]
    by_cases hc : left.getD x.to 0 = left.getD v 0 - 1 ∧ (nx.1 < 0 ∨ (x.con : Int) < nx.1)
    · have hs : nstep left v nx x = ((x.con : Int), (x.to : Int)) := if_pos hc
      rw [hs]
      rcases ih _ (.inr ⟨x, rfl, hc.1⟩) with ⟨h1, h2, h3⟩ | ⟨e, h1, h2, h3, h4, h5⟩
      · simp at h2
        omega
      · have h40 := h4 (by simp)
        refine .inr ⟨e, h1, h2, .inr ?_, fun h0 => ?_, fun f hf hfd => ?_⟩
        · rcases h3 with h3 | h3
          · have : e = x := by
              cases e; cases x
              simp at h3
              simp
              omega
            simp [this]
          · simp [h3]
        · have := hc.2
          simp only at h40
          omega
        · rcases List.mem_cons.1 hf with rfl | hf
          · simp only at h40
            omega
          · exact h5 f hf hfd
    · have hs : nstep left v nx x = nx := if_neg hc
      rw [hs]
      rcases ih nx h with ⟨h1, h2, h3⟩ | ⟨e, h1, h2, h3, h4, h5⟩
      · refine .inl ⟨h1, h2, fun f hf => ?_⟩
        rcases List.mem_cons.1 hf with rfl | hf
        · exact fun hd => hc ⟨hd, .inl h2⟩
        · exact h3 f hf
      · refine .inr ⟨e, h1, h2, h3.imp id (fun hm => by simp [hm]), h4, fun f hf hfd => ?_⟩
        rcases List.mem_cons.1 hf with rfl | hf
        · rcases h with h | ⟨e', rfl, he'⟩
          · exact absurd ⟨hfd, .inl h⟩ hc
          · have h6 := h4 (by simp)
            simp only at h6
            have h7 : ¬ ((f.con : Int) < (e'.con : Int)) := fun hl => hc ⟨hfd, .inr hl⟩
            omega
        · exact h5 f hf hfd

theorem nextM_spec {E : List (List Edge)} {n : Nat} {F : List Nat} {left : List Int} (hd : Dist E n F left) (hsym : ∀ u v, u < n → (∃ e ∈ E.getD u [], e.to = v) → ∃ e ∈ E.getD v [], e.to = u) {v : Nat} (hv : v < n) (hpos : 0 < left.getD v 0) :
    ∃ e ∈ E.getD v [], nextM E left v = ((e.con : Int), (e.to : Int)) ∧ left.getD e.to 0 = left.getD v 0 - 1 ∧ ∀ f ∈ E.getD v [], left.getD f.to 0 = left.getD v 0 - 1 → e.con ≤ f.con := by
  obtain ⟨u, hu, hue, hud⟩ := hd.pred v hv hpos
  obtain ⟨e, he, heu⟩ := hsym u v hu hue
  rcases nfold_spec left v (E.getD v []) (-1, 0) (.inl (by simp)) with ⟨_, _, h3⟩ | ⟨e', h1, h2, h3, _, h5⟩
  · exact absurd (by rw [heu]; exact hud) (h3 e he)
  · refine ⟨e', ?_, h1, h2, h5⟩
    rcases h3 with h3 | h3
    · simp at h3
    · exact h3

/-- From what is reached there is a way back. -/
theorem reach_back {E : List (List Edge)} {n : Nat} {F : List Nat} {s0 : Nat} {far left : List Int} (h1 : Dist E n [s0] far) (h2 : Dist E n F left)
    (hsym : ∀ u v, u < n → (∃ e ∈ E.getD u [], e.to = v) → ∃ e ∈ E.getD v [], e.to = u) : ∀ (m v : Nat), v < n → far.getD v 0 = (m : Int) → 0 ≤ left.getD v 0 → 0 ≤ left.getD s0 0 := by
  intro m
  induction m with
  | zero =>
    intro v hv hm hl
    have := (h1.zero v hv).1 (by simpa using hm)
    simp at this
    subst this
    exact hl
  | succ m ih =>
    intro v hv hm hl
    obtain ⟨u, hu, hue, hud⟩ := h1.pred v hv (by omega)
    obtain ⟨e, he, heu⟩ := hsym u v hu hue
    have := (h2.next v hv hl e he).1
    rw [heu] at this
    exact ih u hu (by omega) this

end Go.Proofs.Ytpdimehoepfgaaa
