/- Plain law: what Solve returns does not depend on the order of the constraints. No program is named here. -/
import Derived.Test.YtpdimehoepfgaaaPl3
import Derived.Test.YtpdimehoepfgaaaEq
namespace Go.Proofs.Ytpdimehoepfgaaa

def solveErr (vert : Int) (l : List Con) : Int := if vert < 0 ∨ 4096 < vert then 2 else if l.all (okCon vert.toNat) = true then 0 else 1
def solveTys (vert : Int) (l : List Con) : List Ty := if solveErr vert l = 0 then (solveUpto l vert.toNat vert.toNat).out else []
def solveChs (vert : Int) (l : List Con) : List (List Int) := if solveErr vert l = 0 then (solveUpto l vert.toNat vert.toNat).chains else []

theorem err_zero {vert : Int} {l : List Con} (h : solveErr vert l = 0) : 0 ≤ vert ∧ vert ≤ 4096 ∧ Ok l vert.toNat := by
  unfold solveErr at h
  split at h
  · omega
  · rename_i hr
    split at h
    · rename_i ha
      exact ⟨by omega, by omega, List.all_eq_true.1 ha⟩
    · omega

theorem filterMap_same {α β : Type} {f g : α → Option β} : ∀ {l : List α}, (∀ x ∈ l, f x = g x) → l.filterMap f = l.filterMap g := by
  intro l
  induction l with
  | nil => intro _; rfl
  | cons x l ih =>
    intro h
    rw [List.filterMap_cons, List.filterMap_cons, h x (by simp), ih (fun y hy => h y (by simp [hy]))]

theorem nonweak_eq {l : List Con} {n : Nat} (h : Ok l n) {c d : Con} (hc : c ∈ l) (hd : d ∈ l) (hk : c.kind = 0) (hk' : d.kind = 0) (h5 : c.tk ≠ 5) (h6 : c.tk ≠ 6) (h5' : d.tk ≠ 5) (h6' : d.tk ≠ 6) (hx : cexcl c d = false) : eqT c.mark d.mark = true := by
  have hm := (ok_mark h hc hk).2.2
  have hm' := (ok_mark h hd hk').2.2
  unfold cexcl exclB at hx
  have c1 : coversB c.tk d.tk = false := by simp [coversB, h5, h6]
  have c2 : coversB d.tk c.tk = false := by simp [coversB, h5', h6']
  rw [hm, hm', c1, c2] at hx
  simpa [eqT, Con.mark] using hx

section
variable {l l' : List Con} {n : Nat}

theorem best_perm_le (h : Ok l n) (h' : Ok l' n) (hp : ∀ c, c ∈ l ↔ c ∈ l') {v : Nat} (hv : v < n) {ch ch' : List Int} (hb : (bestOf l n v).1 = some ch) (hb' : (bestOf l' n v).1 = some ch') : ch.length ≤ ch'.length := by
  obtain ⟨⟨i, j, c, c', es, h1, h2, h3, h4, h5, h6, h7, h8, h9, h10⟩, _⟩ := best_some h' hv hb'
  have hr := h9.reach.sub (l' := l) (fun c hc => (hp c).2 hc)
  have := (best_some h hv hb).2 c c' ((hp c).2 (List.mem_of_getElem? h2)) ((hp c').2 (List.mem_of_getElem? h4)) h3 h5 h7 (h8.sub (fun c hc => (hp c).2 hc)) _ hr
  rw [h1]
  simp
  omega

theorem best_perm_none (h : Ok l n) (h' : Ok l' n) (hp : ∀ c, c ∈ l ↔ c ∈ l') {v : Nat} (hv : v < n) (hb : (bestOf l n v).1 = none) : (bestOf l' n v).1 = none := by
  cases hb' : (bestOf l' n v).1 with
  | none => rfl
  | some ch' =>
    obtain ⟨⟨i, j, c, c', es, h1, h2, h3, h4, h5, h6, h7, h8, h9, h10⟩, _⟩ := best_some h' hv hb'
    have hr := h9.reach.sub (l' := l) (fun c hc => (hp c).2 hc)
    have hcn := h8.sub (l' := l) (fun c hc => (hp c).2 hc)
    have := best_none h hv hb c c' ((hp c).2 (List.mem_of_getElem? h2)) ((hp c').2 (List.mem_of_getElem? h4)) h3 h5 hcn (hcn.trans ⟨_, hr⟩)
    rw [this] at h7
    cases h7

theorem best_perm_len (h : Ok l n) (h' : Ok l' n) (hp : ∀ c, c ∈ l ↔ c ∈ l') {v : Nat} (hv : v < n) : (bestOf l n v).1.map List.length = (bestOf l' n v).1.map List.length := by
  have hp' : ∀ c, c ∈ l' ↔ c ∈ l := fun c => (hp c).symm
  cases hb : (bestOf l n v).1 with
  | none => rw [best_perm_none h h' hp hv hb]
  | some ch =>
    cases hb' : (bestOf l' n v).1 with
    | none =>
      rw [best_perm_none h' h hp' hv hb'] at hb
      cases hb
    | some ch' =>
      have h1 := best_perm_le h h' hp hv hb hb'
      have h2 := best_perm_le h' h hp' hv hb' hb
      simp
      omega

theorem ty_perm (h : Ok l n) (h' : Ok l' n) (hp : ∀ c, c ∈ l ↔ c ∈ l') {v : Nat} (hv : v < n) : eqT (tyOf l n v) (tyOf l' n v) = true := by
  have hp' : ∀ c, c ∈ l' ↔ c ∈ l := fun c => (hp c).symm
  unfold tyOf
  cases hb : (bestOf l n v).1 with
  | some ch =>
    cases hb' : (bestOf l' n v).1 with
    | none =>
      rw [best_perm_none h' h hp' hv hb'] at hb
      cases hb
    | some ch' => exact eqT_refl _
  | none =>
    rw [best_perm_none h h' hp hv hb]
    simp only
    rcases best_type h hv with ⟨h1, h2⟩ | ⟨c, hc, hk, hcn, h5, h6, h7⟩
    · rcases best_type h' hv with ⟨h1', _⟩ | ⟨c, hc, hk, hcn, h5, h6, _⟩
      · rw [h1, h1']; exact eqT_refl _
      · have := h2 c ((hp c).2 hc) hk (hcn.sub (fun c hc => (hp c).2 hc))
        omega
    · rcases best_type h' hv with ⟨_, h2'⟩ | ⟨c', hc', hk', hcn', h5', h6', h7'⟩
      · have := h2' c ((hp c).1 hc) hk (hcn.sub (fun c hc => (hp c).1 hc))
        omega
      · rw [h7, h7']
        have hc'' := (hp c').2 hc'
        have hcn'' := hcn'.sub (l' := l) (fun c hc => (hp c).2 hc)
        exact nonweak_eq h hc hc'' hk hk' h5 h6 h5' h6' (best_none h hv hb c c' hc hc'' hk hk' hcn hcn'')

theorem rep_perm (hp : ∀ c, c ∈ l ↔ c ∈ l') (v : Nat) : IsRep l v ↔ IsRep l' v := by
  unfold IsRep
  constructor
  · intro h1 u hu hc
    exact h1 u hu (hc.sub (fun c hc => (hp c).2 hc))
  · intro h1 u hu hc
    exact h1 u hu (hc.sub (fun c hc => (hp c).1 hc))

theorem chains_perm (h : Ok l n) (h' : Ok l' n) (hp : ∀ c, c ∈ l ↔ c ∈ l') : (solveUpto l n n).chains.map List.length = (solveUpto l' n n).chains.map List.length := by
  rw [solve_chains h, solve_chains h', List.map_filterMap, List.map_filterMap]
  have e1 : (List.range n).filter (isRepB l n) = (List.range n).filter (isRepB l' n) := by
    apply List.filter_congr
    intro v hv
    rw [List.mem_range] at hv
    rw [Bool.eq_iff_iff, isRepB_iff h hv, isRepB_iff h' hv, rep_perm hp]
  rw [e1]
  refine filterMap_same fun v hv => ?_
  have hv' : v < n := by simpa using (List.mem_filter.1 hv).1
  exact best_perm_len h h' hp hv'

theorem out_perm (h : Ok l n) (h' : Ok l' n) (hp : ∀ c, c ∈ l ↔ c ∈ l') : tysEq (solveUpto l n n).out (solveUpto l' n n).out = true := by
  have l1 := (solveUpto_len l n n).1
  have l2 := (solveUpto_len l' n n).1
  unfold tysEq
  rw [decide_eq_true (by rw [l1, l2]), Bool.true_and, List.all_eq_true]
  intro u hu
  rw [List.mem_range, l1] at hu
  obtain ⟨v, hv, hr, hc, ho⟩ := solve_out h hu
  obtain ⟨v', hv', hr', hc', ho'⟩ := solve_out h' hu
  have e : v = v' := rep_unique hr ((rep_perm hp v').2 hr') (hc.trans (hc'.sub (fun c hc => (hp c).2 hc)).symm)
  subst e
  rw [ho, ho']
  exact ty_perm h h' hp hv
end

theorem err_perm {l l' : List Con} (hp : ∀ c, c ∈ l ↔ c ∈ l') (vert : Int) : solveErr vert l = solveErr vert l' := by
  unfold solveErr
  have : l.all (okCon vert.toNat) = l'.all (okCon vert.toNat) := by
    rw [Bool.eq_iff_iff, List.all_eq_true, List.all_eq_true]
    exact ⟨fun h c hc => h c ((hp c).2 hc), fun h c hc => h c ((hp c).1 hc)⟩
  rw [this]

/-- The law of the order. -/
theorem order_law {l l' : List Con} (hp : ∀ c, c ∈ l ↔ c ∈ l') (vert : Int) :
    solveErr vert l = solveErr vert l' ∧ tysEq (solveTys vert l) (solveTys vert l') = true ∧ (solveChs vert l).map List.length = (solveChs vert l').map List.length := by
  have he := err_perm hp vert
  refine ⟨he, ?_, ?_⟩
  · unfold solveTys
    rw [← he]
    split
    · rename_i h0
      have h1 := err_zero h0
      rw [he] at h0
      exact out_perm h1.2.2 (err_zero h0).2.2 hp
    · rfl
  · unfold solveChs
    rw [← he]
    split
    · rename_i h0
      have h1 := err_zero h0
      rw [he] at h0
      exact chains_perm h1.2.2 (err_zero h0).2.2 hp
    · rfl

theorem solve_lens (vert : Int) (l : List Con) : (solveTys vert l).length ≤ 4096 ∧ (solveChs vert l).length ≤ 4096 := by
  unfold solveTys solveChs
  split
  · rename_i h
    have h1 := err_zero h
    have h2 := solveUpto_len l vert.toNat vert.toNat
    omega
  · simp

end Go.Proofs.Ytpdimehoepfgaaa
