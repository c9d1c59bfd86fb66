/- Plain laws of Solve's model: the best chain of a class, the types, and how the classes are gone through. No program is named here. -/
import Derived.Test.YtpdimehoepfgaaaPl1
import Derived.Test.YtpdimehoepfgaaaLoop
namespace Go.Proofs.Ytpdimehoepfgaaa

theorem cexcl_comm (c d : Con) : cexcl c d = cexcl d c := exclB_comm _ _ _ _ _ _
theorem cexcl_self (c : Con) : cexcl c c = false := exclB_self _ _ _

theorem other_some {l : List Con} {M : Nat → List Nat} {i v j : Nat} (h : otherM l M i v = some j) : j ∈ M v ∧ i < j ∧ ∃ ci cj, l[i]? = some ci ∧ l[j]? = some cj ∧ cexcl ci cj = true := by
  unfold otherM at h
  have h1 := List.find?_some h
  have h2 := List.mem_of_find?_eq_some h
  rw [Bool.and_eq_true] at h1
  refine ⟨h2, of_decide_eq_true h1.1, ?_⟩
  cases hi : l[i]? with
  | none => rw [hi] at h1; simp at h1
  | some ci =>
    cases hj : l[j]? with
    | none => rw [hi, hj] at h1; simp at h1
    | some cj => rw [hi, hj] at h1; exact ⟨ci, cj, rfl, rfl, h1.2⟩

theorem other_is {l : List Con} {M : Nat → List Nat} {i v j : Nat} {ci cj : Con} (hj : j ∈ M v) (hij : i < j) (hi : l[i]? = some ci) (hj' : l[j]? = some cj) (hx : cexcl ci cj = true) : (otherM l M i v).isSome = true := by
  unfold otherM
  rw [List.find?_isSome]
  exact ⟨j, hj, by rw [hi, hj']; simp [hij, hx]⟩

/-- The chain that begins with a mark. -/
def chainOf (l : List Con) (n : Nat) (z : Int) : Option (List Int) :=
  match l[z.toNat]? with
  | none => none
  | some c => chainFrom (edgesM l n l.length) n (otherM l (marksUpto l l.length) z.toNat) z.toNat c.a.toNat

def bestOf (l : List Con) (n v : Nat) : Option (List Int) × Ty := (marksOfClass (marksUpto l l.length) (classM (edgesM l n l.length) n v)).foldl (bestStep (edgesM l n l.length) n l (marksUpto l l.length)) (none, zeroTy)

theorem bestStep_fst (l : List Con) (n : Nat) (b : Option (List Int) × Ty) (z : Int) : (bestStep (edgesM l n l.length) n l (marksUpto l l.length) b z).1 = pickBest b.1 (chainOf l n z) := by
  unfold bestStep chainOf
  cases l[z.toNat]? with
  | none => rfl
  | some c => rfl

theorem best_fold (l : List Con) (n : Nat) : ∀ (ms : List Int) (b : Option (List Int) × Ty),
    (∀ ch, (ms.foldl (bestStep (edgesM l n l.length) n l (marksUpto l l.length)) b).1 = some ch → (b.1 = some ch ∨ ∃ z ∈ ms, chainOf l n z = some ch) ∧ (∀ old, b.1 = some old → ch.length ≤ old.length) ∧ ∀ z ∈ ms, ∀ ch', chainOf l n z = some ch' → ch.length ≤ ch'.length) ∧
    ((ms.foldl (bestStep (edgesM l n l.length) n l (marksUpto l l.length)) b).1 = none → b.1 = none ∧ ∀ z ∈ ms, chainOf l n z = none) := by
  intro ms
  induction ms with
  | nil =>
    intro b
    refine ⟨fun ch h => ⟨.inl h, fun old ho => ?_, by simp⟩, fun h => ⟨h, by simp⟩⟩
    simp only [List.foldl_nil] at h
    rw [h] at ho
    cases ho
    exact Nat.le_refl _
  | cons z ms ih =>
    intro b
    rw [List.foldl_cons]
    obtain ⟨h1, h2⟩ := ih (bestStep (edgesM l n l.length) n l (marksUpto l l.length) b z)
    rw [bestStep_fst] at h1 h2
    constructor
    · intro ch hch
      obtain ⟨h3, h4, h5⟩ := h1 ch hch
      cases hz : chainOf l n z with
      | none =>
        rw [hz] at h3 h4
        simp only [pickBest] at h3 h4
        refine ⟨?_, h4, fun y hy ch' hc' => ?_⟩
        · rcases h3 with h3 | ⟨y, hy, h3⟩
          · exact .inl h3
          · exact .inr ⟨y, by simp [hy], h3⟩
        · rcases List.mem_cons.1 hy with rfl | hy
          · rw [hz] at hc'; cases hc'
          · exact h5 y hy ch' hc'
      | some c0 =>
        rw [hz] at h3 h4
        cases hb : b.1 with
        | none =>
          rw [hb] at h3 h4
          simp only [pickBest] at h3 h4
          refine ⟨.inr ?_, fun old ho => (by cases ho), fun y hy ch' hc' => ?_⟩
          · rcases h3 with h3 | ⟨y, hy, h3⟩
            · exact ⟨z, by simp, by rw [hz]; exact h3⟩
            · exact ⟨y, by simp [hy], h3⟩
          · rcases List.mem_cons.1 hy with rfl | hy
            · rw [hz] at hc'
              cases hc'
              exact h4 _ rfl
            · exact h5 y hy ch' hc'
        | some old =>
          rw [hb] at h3 h4
          by_cases hlt : c0.length < old.length
          · simp only [pickBest, if_pos hlt] at h3 h4
            have h6 := h4 _ rfl
            refine ⟨?_, fun o ho => ?_, fun y hy ch' hc' => ?_⟩
            · rcases h3 with h3 | ⟨y, hy, h3⟩
              · exact .inr ⟨z, by simp, by rw [hz]; exact h3⟩
              · exact .inr ⟨y, by simp [hy], h3⟩
            · cases ho
              omega
            · rcases List.mem_cons.1 hy with rfl | hy
              · rw [hz] at hc'
                cases hc'
                exact h6
              · exact h5 y hy ch' hc'
          · simp only [pickBest, if_neg hlt] at h3 h4
            have h6 := h4 _ rfl
            refine ⟨?_, fun o ho => ?_, fun y hy ch' hc' => ?_⟩
            · rcases h3 with h3 | ⟨y, hy, h3⟩
              · exact .inl h3
              · exact .inr ⟨y, by simp [hy], h3⟩
            · cases ho
              exact h6
            · rcases List.mem_cons.1 hy with rfl | hy
              · rw [hz] at hc'
                cases hc'
                omega
              · exact h5 y hy ch' hc'
    · intro hn
      obtain ⟨h3, h4⟩ := h2 hn
      cases hz : chainOf l n z with
      | none =>
        rw [hz] at h3
        refine ⟨h3, fun y hy => ?_⟩
        rcases List.mem_cons.1 hy with rfl | hy
        · exact hz
        · exact h4 y hy
      | some c0 =>
        rw [hz] at h3
        cases hb : b.1 with
        | none => rw [hb] at h3; cases h3
        | some old =>
          rw [hb] at h3
          simp only [pickBest] at h3
          split at h3 <;> cases h3

theorem type_fold (l : List Con) (n : Nat) : ∀ (ms : List Int) (b : Option (List Int) × Ty),
    ((ms.foldl (bestStep (edgesM l n l.length) n l (marksUpto l l.length)) b).2 = b.2 ∧ ∀ z ∈ ms, ∀ c, l[z.toNat]? = some c → c.tk = 5 ∨ c.tk = 6) ∨
    ∃ z ∈ ms, ∃ c, l[z.toNat]? = some c ∧ c.tk ≠ 5 ∧ c.tk ≠ 6 ∧ (ms.foldl (bestStep (edgesM l n l.length) n l (marksUpto l l.length)) b).2 = c.mark := by
  intro ms
  induction ms with
  | nil => intro b; exact .inl ⟨rfl, by simp⟩
  | cons z ms ih =>
    intro b
    rw [List.foldl_cons]
    rcases ih (bestStep (edgesM l n l.length) n l (marksUpto l l.length) b z) with ⟨h1, h2⟩ | ⟨y, hy, c, hc, h5, h6, h7⟩
    · cases hz : l[z.toNat]? with
      | none =>
        refine .inl ⟨?_, fun y hy c hc => ?_⟩
        · rw [h1]; unfold bestStep; rw [hz]
        · rcases List.mem_cons.1 hy with rfl | hy
          · rw [hz] at hc; cases hc
          · exact h2 y hy c hc
      | some c0 =>
        by_cases hw : c0.tk ≠ 5 ∧ c0.tk ≠ 6
        · refine .inr ⟨z, by simp, c0, hz, hw.1, hw.2, ?_⟩
          rw [h1]; unfold bestStep; rw [hz]
          simp only [if_pos hw]
        · refine .inl ⟨?_, fun y hy c hc => ?_⟩
          · rw [h1]; unfold bestStep; rw [hz]
            simp only [if_neg hw]
          · rcases List.mem_cons.1 hy with rfl | hy
            · rw [hz] at hc
              cases hc
              by_cases h5 : c0.tk = 5
              · exact .inl h5
              · exact .inr (Classical.byContradiction fun h6 => hw ⟨h5, h6⟩)
            · exact h2 y hy c hc
    · exact .inr ⟨y, by simp [hy], c, hc, h5, h6, h7⟩

section
variable {l : List Con} {n : Nat}

theorem mem_class {v u : Nat} : u ∈ classM (edgesM l n l.length) n v ↔ u < n ∧ 0 ≤ dd l n v u := by
  unfold classM dd
  rw [List.mem_filter, List.mem_range]
  simp

/-- The marks of a class. -/
theorem mem_marks (h : Ok l n) {v : Nat} (hv : v < n) {z : Int} : z ∈ marksOfClass (marksUpto l l.length) (classM (edgesM l n l.length) n v) ↔ ∃ (i : Nat) (c : Con), z = (i : Int) ∧ l[i]? = some c ∧ c.kind = 0 ∧ Conn l v c.a.toNat := by
  constructor
  · intro hz
    obtain ⟨i, u, rfl, hu, hi⟩ := marks_mem hz
    obtain ⟨c, hc, _, hk, ha⟩ := (mem_marksUpto l l.length u i).1 hi
    have hu' := mem_class.1 hu
    refine ⟨i, c, rfl, hc, hk, ?_⟩
    rw [ha, Int.toNat_natCast]
    exact (conn_dd h hv hu'.1).2 hu'.2
  · rintro ⟨i, c, rfl, hc, hk, hcn⟩
    have hm := ok_mark h (List.mem_of_getElem? hc) hk
    have hlt : c.a.toNat < n := by omega
    unfold marksOfClass
    rw [List.mem_mergeSort, List.mem_map]
    refine ⟨i, List.mem_flatMap.2 ⟨c.a.toNat, mem_class.2 ⟨hlt, (conn_dd h hv hlt).1 hcn⟩, ?_⟩, rfl⟩
    exact (mem_marksUpto l l.length _ i).2 ⟨c, hc, (List.getElem?_eq_some_iff.1 hc).1, hk, by omega⟩

/-- A chain of a mark: two marks that exclude each other, and a way between them. -/
theorem chainOf_some (h : Ok l n) {i : Nat} {c : Con} (hc : l[i]? = some c) (hk : c.kind = 0) {ch : List Int} (hch : chainOf l n (i : Int) = some ch) :
    ∃ (j : Nat) (c' : Con) (es : List Int), ch = (i : Int) :: (es ++ [(j : Int)]) ∧ l[j]? = some c' ∧ c'.kind = 0 ∧ i < j ∧ cexcl c c' = true ∧ PathI l c.a.toNat es c'.a.toNat ∧ (es.length : Int) = dd l n c.a.toNat c'.a.toNat ∧
      ∀ j' c'', l[j']? = some c'' → c''.kind = 0 → i < j' → cexcl c c'' = true → 0 ≤ dd l n c.a.toNat c''.a.toNat → (es.length : Int) ≤ dd l n c.a.toNat c''.a.toNat := by
  unfold chainOf at hch
  rw [Int.toNat_natCast, hc] at hch
  have hm := ok_mark h (List.mem_of_getElem? hc) hk
  obtain ⟨v, j, es, h1, h2, h3, h4, h5, h6⟩ := chain_some h (by omega) hch
  obtain ⟨hjm, hij, ci, cj, hi, hj, hx⟩ := other_some h3
  rw [hc] at hi
  cases hi
  obtain ⟨c', hc', _, hk', ha'⟩ := (mem_marksUpto l l.length v j).1 hjm
  rw [hj] at hc'
  cases hc'
  have hav : cj.a.toNat = v := by omega
  refine ⟨j, cj, es, h1, hj, hk', hij, hx, by rw [hav]; exact h4, by rw [hav]; exact h5, fun j' c'' hj' hk'' hij' hx' h0 => ?_⟩
  have hm'' := ok_mark h (List.mem_of_getElem? hj') hk''
  exact h6 _ (by omega) (other_is ((mem_marksUpto l l.length _ j').2 ⟨c'', hj', (List.getElem?_eq_some_iff.1 hj').1, hk'', by omega⟩) hij' hc hj' hx') h0

theorem chainOf_ne (h : Ok l n) {i j : Nat} {c c' : Con} (hc : l[i]? = some c) (hk : c.kind = 0) (hc' : l[j]? = some c') (hk' : c'.kind = 0) (hij : i < j) (hx : cexcl c c' = true) {k : Nat} (hr : Reach l k c.a.toNat c'.a.toNat) :
    ∃ ch, chainOf l n (i : Int) = some ch ∧ ch.length ≤ k + 2 := by
  have hm := ok_mark h (List.mem_of_getElem? hc) hk
  have hm' := ok_mark h (List.mem_of_getElem? hc') hk'
  have hdd := dd_le h (by omega) hr
  cases hch : chainOf l n (i : Int) with
  | none =>
    have hch' := hch
    unfold chainOf at hch'
    rw [Int.toNat_natCast, hc] at hch'
    have := chain_none hch' c'.a.toNat (by omega) (other_is ((mem_marksUpto l l.length _ j).2 ⟨c', hc', (List.getElem?_eq_some_iff.1 hc').1, hk', by omega⟩) hij hc hc' hx)
    omega
  | some ch =>
    obtain ⟨_, _, es, h1, _, _, _, _, _, _, h8⟩ := chainOf_some h hc hk hch
    have := h8 j c' hc' hk' hij hx hdd.2.1
    refine ⟨ch, rfl, ?_⟩
    rw [h1]
    simp
    omega

/-- The best chain of a class. -/
theorem best_some (h : Ok l n) {v : Nat} (hv : v < n) {ch : List Int} (hb : (bestOf l n v).1 = some ch) :
    (∃ (i j : Nat) (c c' : Con) (es : List Int), ch = (i : Int) :: (es ++ [(j : Int)]) ∧ l[i]? = some c ∧ c.kind = 0 ∧ l[j]? = some c' ∧ c'.kind = 0 ∧ i < j ∧ cexcl c c' = true ∧ Conn l v c.a.toNat ∧ PathI l c.a.toNat es c'.a.toNat ∧ (es.length : Int) = dd l n c.a.toNat c'.a.toNat) ∧
    ∀ c c', c ∈ l → c' ∈ l → c.kind = 0 → c'.kind = 0 → cexcl c c' = true → Conn l v c.a.toNat → ∀ k, Reach l k c.a.toNat c'.a.toNat → ch.length ≤ k + 2 := by
  obtain ⟨h1, h2, h3⟩ := (best_fold l n _ _).1 ch hb
  constructor
  · rcases h1 with h1 | ⟨z, hz, h1⟩
    · cases h1
    · obtain ⟨i, c, rfl, hc, hk, hcn⟩ := (mem_marks h hv).1 hz
      obtain ⟨j, c', es, h4, h5, h6, h7, h8, h9, h10, _⟩ := chainOf_some h hc hk h1
      exact ⟨i, j, c, c', es, h4, hc, hk, h5, h6, h7, h8, hcn, h9, h10⟩
  · intro c c' hc hc' hk hk' hx hcn k hr
    obtain ⟨p, hp, rfl⟩ := List.getElem_of_mem hc
    obtain ⟨q, hq, rfl⟩ := List.getElem_of_mem hc'
    rcases Nat.lt_trichotomy p q with hpq | hpq | hpq
    · obtain ⟨ch', h4, h5⟩ := chainOf_ne h (List.getElem?_eq_getElem hp) hk (List.getElem?_eq_getElem hq) hk' hpq hx hr
      have := h3 _ ((mem_marks h hv).2 ⟨p, _, rfl, List.getElem?_eq_getElem hp, hk, hcn⟩) ch' h4
      omega
    · subst hpq
      rw [cexcl_self] at hx
      cases hx
    · obtain ⟨ch', h4, h5⟩ := chainOf_ne h (List.getElem?_eq_getElem hq) hk' (List.getElem?_eq_getElem hp) hk hpq (by rw [cexcl_comm]; exact hx) hr.symm
      have := h3 _ ((mem_marks h hv).2 ⟨q, _, rfl, List.getElem?_eq_getElem hq, hk', hcn.trans ⟨k, hr⟩⟩) ch' h4
      omega

theorem best_none (h : Ok l n) {v : Nat} (hv : v < n) (hb : (bestOf l n v).1 = none) :
    ∀ c c', c ∈ l → c' ∈ l → c.kind = 0 → c'.kind = 0 → Conn l v c.a.toNat → Conn l v c'.a.toNat → cexcl c c' = false := by
  obtain ⟨_, h2⟩ := (best_fold l n _ _).2 hb
  intro c c' hc hc' hk hk' hcn hcn'
  cases hx : cexcl c c' with
  | false => rfl
  | true =>
    obtain ⟨k, hr⟩ := hcn.symm.trans hcn'
    obtain ⟨p, hp, rfl⟩ := List.getElem_of_mem hc
    obtain ⟨q, hq, rfl⟩ := List.getElem_of_mem hc'
    rcases Nat.lt_trichotomy p q with hpq | hpq | hpq
    · obtain ⟨ch', h4, h5⟩ := chainOf_ne h (List.getElem?_eq_getElem hp) hk (List.getElem?_eq_getElem hq) hk' hpq hx hr
      rw [h2 _ ((mem_marks h hv).2 ⟨p, _, rfl, List.getElem?_eq_getElem hp, hk, hcn⟩)] at h4
      cases h4
    · subst hpq
      rw [cexcl_self] at hx
      cases hx
    · obtain ⟨ch', h4, h5⟩ := chainOf_ne h (List.getElem?_eq_getElem hq) hk' (List.getElem?_eq_getElem hp) hk hpq (by rw [cexcl_comm]; exact hx) hr.symm
      rw [h2 _ ((mem_marks h hv).2 ⟨q, _, rfl, List.getElem?_eq_getElem hq, hk', hcn'⟩)] at h4
      cases h4

/-- The type of a class without a conflict. -/
theorem best_type (h : Ok l n) {v : Nat} (hv : v < n) : ((bestOf l n v).2 = zeroTy ∧ ∀ c ∈ l, c.kind = 0 → Conn l v c.a.toNat → c.tk = 5 ∨ c.tk = 6) ∨
    ∃ c ∈ l, c.kind = 0 ∧ Conn l v c.a.toNat ∧ c.tk ≠ 5 ∧ c.tk ≠ 6 ∧ (bestOf l n v).2 = c.mark := by
  rcases type_fold l n (marksOfClass (marksUpto l l.length) (classM (edgesM l n l.length) n v)) (none, zeroTy) with ⟨h1, h2⟩ | ⟨z, hz, c, hc, h5, h6, h7⟩
  · refine .inl ⟨h1, fun c hc hk hcn => ?_⟩
    obtain ⟨p, hp, rfl⟩ := List.getElem_of_mem hc
    exact h2 _ ((mem_marks h hv).2 ⟨p, _, rfl, List.getElem?_eq_getElem hp, hk, hcn⟩) _ (by rw [Int.toNat_natCast]; exact List.getElem?_eq_getElem hp)
  · obtain ⟨i, c', rfl, hc', hk, hcn⟩ := (mem_marks h hv).1 hz
    rw [Int.toNat_natCast, hc'] at hc
    cases hc
    exact .inr ⟨_, List.mem_of_getElem? hc', hk, hcn, h5, h6, h7⟩

end
end Go.Proofs.Ytpdimehoepfgaaa
