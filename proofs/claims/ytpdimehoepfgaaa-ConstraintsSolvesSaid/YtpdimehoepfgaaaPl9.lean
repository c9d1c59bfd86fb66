/- Plain law: the reference's best chain and type of a class are the program's. No program is named here. -/
import Derived.Test.YtpdimehoepfgaaaPl8
namespace Go.Proofs.Ytpdimehoepfgaaa

def ord (a b : List Int) : Prop := a.length < b.length ∨ (a.length = b.length ∧ lexLe a b)

theorem ord_refl (a : List Int) : ord a a := .inr ⟨rfl, lexLe_refl a⟩

theorem lexLe_trans : ∀ {a b c : List Int}, a.length = b.length → lexLe a b → lexLe b c → lexLe a c
  | [], _, _, _, _, _ => trivial
  | _ :: _, [], _, h, _, _ => by simp at h
  | _ :: _, _ :: _, [], _, _, h => h
  | x :: xs, y :: ys, z :: zs, hl, h1, h2 => by
    rcases h1 with h1 | ⟨rfl, h1⟩
    · rcases h2 with h2 | ⟨rfl, _⟩
      · exact Or.inl (by omega)
      · exact Or.inl h1
    · rcases h2 with h2 | ⟨rfl, h2⟩
      · exact Or.inl h2
      · exact Or.inr ⟨rfl, lexLe_trans (by simpa using hl) h1 h2⟩

theorem ord_trans {a b c : List Int} (h1 : ord a b) (h2 : ord b c) : ord a c := by
  rcases h1 with h1 | ⟨e1, h1⟩
  · rcases h2 with h2 | ⟨e2, _⟩
    · exact .inl (by omega)
    · exact .inl (by omega)
  · rcases h2 with h2 | ⟨e2, h2⟩
    · exact .inl (by omega)
    · exact .inr ⟨by omega, lexLe_trans e1 h1 h2⟩

theorem ord_anti {a b : List Int} (h1 : ord a b) (h2 : ord b a) : a = b := by
  rcases h1 with h1 | ⟨e1, h1⟩
  · rcases h2 with h2 | ⟨e2, _⟩ <;> omega
  · rcases h2 with h2 | ⟨_, h2⟩
    · omega
    · exact lexLe_anti e1 h1 h2

def lexLt : List Int → List Int → Bool
  | x :: xs, y :: ys => if x = y then lexLt xs ys else decide (x < y)
  | _, _ => false

/-- The reference's 'before'. -/
def beforeB (a b : List Int) : Bool := if b.length = 0 ∨ a.length ≠ b.length then decide (b.length = 0 ∨ a.length < b.length) else lexLt a b

theorem lexLt_le : ∀ {a b : List Int}, lexLt a b = true → lexLe a b
  | [], _, _ => trivial
  | _ :: _, [], h => by simp [lexLt] at h
  | x :: xs, y :: ys, h => by
    unfold lexLt at h
    split at h
    · rename_i e
      exact Or.inr ⟨e, lexLt_le h⟩
    · exact Or.inl (of_decide_eq_true h)

theorem lexLt_ge : ∀ {a b : List Int}, a.length = b.length → lexLt a b = false → lexLe b a
  | [], [], _, _ => trivial
  | [], _ :: _, h, _ => by simp at h
  | _ :: _, [], h, _ => by simp at h
  | x :: xs, y :: ys, hl, h => by
    unfold lexLt at h
    split at h
    · rename_i e
      exact Or.inr ⟨e.symm, lexLt_ge (by simpa using hl) h⟩
    · rename_i e
      have := of_decide_eq_false h
      exact Or.inl (by omega)

theorem before_yes {a b : List Int} (hb : b ≠ []) (h : beforeB a b = true) : ord a b := by
  have hl : b.length ≠ 0 := fun e => hb (List.eq_nil_of_length_eq_zero e)
  unfold beforeB at h
  split at h
  · have := of_decide_eq_true h
    exact .inl (by omega)
  · exact .inr ⟨by omega, lexLt_le h⟩

theorem before_no {a b : List Int} (h : beforeB a b = false) : b ≠ [] ∧ ord b a := by
  unfold beforeB at h
  split at h
  · have := of_decide_eq_false h
    refine ⟨fun e => ?_, .inl (by omega)⟩
    rw [e] at this
    simp at this
  · rename_i hn
    refine ⟨fun e => ?_, .inr ⟨by omega, lexLt_ge (by omega) h⟩⟩
    rw [e] at hn
    simp at hn

section
variable (l : List Con) (n v : Nat)

/-- Two marks of the class of v that exclude each other. -/
structure PairC (i k : Nat) (c d : Con) : Prop where
  hi : l[i]? = some c
  hk : l[k]? = some d
  ki : c.kind = 0
  kk : d.kind = 0
  lt : i < k
  ex : cexcl c d = true
  ci : 0 ≤ dd l n v c.a.toNat
  ck : 0 ≤ dd l n v d.a.toNat

/-- The best of those that have been looked at. -/
def Good2 (best : List Int) (Pr : Nat → Nat → Prop) : Prop :=
  (best = [] ∧ ∀ i k c d, PairC l n v i k c d → ¬ Pr i k) ∨
  (∃ i k c d, PairC l n v i k c d ∧ Pr i k ∧ best = cand l n i k c d ∧ ∀ i' k' c' d', PairC l n v i' k' c' d' → Pr i' k' → ord best (cand l n i' k' c' d'))

def istep (k : Nat) (d : Con) (best : List Int) (i : Nat) : List Int :=
  match l[i]? with
  | none => best
  | some c =>
    if c.kind ≠ 0 ∨ dd l n v c.a.toNat < 0 ∨ cexcl c d = false then best
    else if best ≠ [] ∧ (best.length : Int) < dd l n d.a.toNat c.a.toNat + 2 then best
    else if beforeB (cand l n i k c d) best = true then cand l n i k c d else best

def kstep (bt : List Int × Ty) (k : Nat) : List Int × Ty :=
  match l[k]? with
  | none => bt
  | some d => if d.kind ≠ 0 ∨ dd l n v d.a.toNat < 0 then bt else ((List.range k).foldl (istep l n v k d) bt.1, if d.tk ≠ 5 ∧ d.tk ≠ 6 then d.mark else bt.2)

def rbest (m : Nat) : List Int × Ty := (List.range m).foldl (kstep l n v) ([], zeroTy)
end

section
variable {l : List Con} {n v : Nat}

theorem rbest_succ (m : Nat) : rbest l n v (m + 1) = kstep l n v (rbest l n v m) m := by
  unfold rbest
  rw [List.range_succ, List.foldl_append]
  rfl

theorem cand_ne (i k : Nat) (c d : Con) : cand l n i k c d ≠ [] := by simp [cand]

theorem PairC.len (h : Ok l n) (hv : v < n) {i k : Nat} {c d : Con} (hp : PairC l n v i k c d) : 0 ≤ dd l n d.a.toNat c.a.toNat ∧ ((cand l n i k c d).length : Int) = dd l n d.a.toNat c.a.toNat + 2 := by
  have m1 := ok_mark h (List.mem_of_getElem? hp.hi) hp.ki
  have m2 := ok_mark h (List.mem_of_getElem? hp.hk) hp.kk
  have hcn : Conn l d.a.toNat c.a.toNat := ((conn_dd h hv (by omega)).2 hp.ck).symm.trans ((conn_dd h hv (by omega)).2 hp.ci)
  have h0 := (conn_dd h (by omega) (by omega)).1 hcn
  refine ⟨h0, ?_⟩
  have := (way_path h (u := c.a.toNat) (t := d.a.toNat) (by omega) (by omega) h0).2
  unfold cand
  simp
  omega

theorem good_mono {best : List Int} {Pr Pr' : Nat → Nat → Prop} (h : Good2 l n v best Pr) (he : ∀ i k c d, PairC l n v i k c d → (Pr' i k ↔ Pr i k)) : Good2 l n v best Pr' := by
  rcases h with ⟨h1, h2⟩ | ⟨i, k, c, d, h1, h2, h3, h4⟩
  · exact .inl ⟨h1, fun i k c d hp hx => h2 i k c d hp ((he i k c d hp).1 hx)⟩
  · exact .inr ⟨i, k, c, d, h1, (he i k c d h1).2 h2, h3, fun i' k' c' d' hp hx => h4 i' k' c' d' hp ((he i' k' c' d' hp).1 hx)⟩

theorem istep_good (h : Ok l n) (hv : v < n) {k : Nat} {d : Con} (hk : l[k]? = some d) (hkd : d.kind = 0) (hcd : 0 ≤ dd l n v d.a.toNat) {i : Nat} (hi : i < k) {best : List Int} (hg : Good2 l n v best (fun i' k' => k' < k ∨ (k' = k ∧ i' < i))) :
    Good2 l n v (istep l n v k d best i) (fun i' k' => k' < k ∨ (k' = k ∧ i' < i + 1)) := by
  have hne : ∀ i' k' c' d', PairC l n v i' k' c' d' → ¬ (i' = i ∧ k' = k) → ((k' < k ∨ (k' = k ∧ i' < i + 1)) ↔ (k' < k ∨ (k' = k ∧ i' < i))) := fun i' k' c' d' _ hx => by omega
  unfold istep
  cases hc : l[i]? with
  | none =>
    refine good_mono hg (fun i' k' c' d' hp => hne i' k' c' d' hp ?_)
    rintro ⟨rfl, rfl⟩
    rw [hp.hi] at hc
    cases hc
  | some c =>
    simp only
    by_cases h1 : c.kind ≠ 0 ∨ dd l n v c.a.toNat < 0 ∨ cexcl c d = false
    · rw [if_pos h1]
      refine good_mono hg (fun i' k' c' d' hp => hne i' k' c' d' hp ?_)
      rintro ⟨rfl, rfl⟩
      have e1 := hp.hi
      have e2 := hp.hk
      rw [hc] at e1
      rw [hk] at e2
      cases e1
      cases e2
      rcases h1 with h1 | h1 | h1
      · exact h1 hp.ki
      · have := hp.ci; omega
      · rw [hp.ex] at h1; cases h1
    · rw [if_neg h1]
      have hpair : PairC l n v i k c d := ⟨hc, hk, Classical.byContradiction fun hx => h1 (.inl hx), hkd, hi, by
        cases hx : cexcl c d with
        | true => rfl
        | false => exact absurd (.inr (.inr hx)) h1, by
        rcases Int.lt_or_le (dd l n v c.a.toNat) 0 with hx | hx
        · exact absurd (.inr (.inl hx)) h1
        · exact hx, hcd⟩
      have hlen := hpair.len h hv
      have hnow : ∀ i' k' c' d', PairC l n v i' k' c' d' → (k' < k ∨ (k' = k ∧ i' < i + 1)) → (i' = i ∧ k' = k ∧ c' = c ∧ d' = d) ∨ (k' < k ∨ (k' = k ∧ i' < i)) := fun i' k' c' d' hp hx => by
        by_cases he : i' = i ∧ k' = k
        · obtain ⟨rfl, rfl⟩ := he
          have e1 := hp.hi
          have e2 := hp.hk
          rw [hc] at e1
          rw [hk] at e2
          cases e1
          cases e2
          exact .inl ⟨rfl, rfl, rfl, rfl⟩
        · exact .inr (by omega)
      have keep : best ≠ [] → ord best (cand l n i k c d) → Good2 l n v best (fun i' k' => k' < k ∨ (k' = k ∧ i' < i + 1)) := fun hb ho => by
        rcases hg with ⟨hx, _⟩ | ⟨i0, k0, cc, dd0, g1, g2, g3, g4⟩
        · exact absurd hx hb
        · refine .inr ⟨i0, k0, cc, dd0, g1, by omega, g3, fun i' k' c' d' hp hx => ?_⟩
          rcases hnow i' k' c' d' hp hx with ⟨rfl, rfl, rfl, rfl⟩ | hx
          · exact ho
          · exact g4 i' k' c' d' hp hx
      by_cases h2 : best ≠ [] ∧ (best.length : Int) < dd l n d.a.toNat c.a.toNat + 2
      · rw [if_pos h2]
        exact keep h2.1 (.inl (by omega))
      · rw [if_neg h2]
        cases hbf : beforeB (cand l n i k c d) best with
        | true =>
          simp only [if_true]
          refine .inr ⟨i, k, c, d, hpair, by omega, rfl, fun i' k' c' d' hp hx => ?_⟩
          rcases hnow i' k' c' d' hp hx with ⟨rfl, rfl, rfl, rfl⟩ | hx
          · exact ord_refl _
          · rcases hg with ⟨_, g2⟩ | ⟨i0, k0, cc, dd0, g1, g2, g3, g4⟩
            · exact absurd hx (g2 i' k' c' d' hp)
            · have hb : best ≠ [] := by rw [g3]; exact cand_ne _ _ _ _
              exact ord_trans (before_yes hb hbf) (g4 i' k' c' d' hp hx)
        | false =>
          simp only [Bool.false_eq_true, if_false]
          have := before_no hbf
          exact keep this.1 this.2

theorem ifold_good (h : Ok l n) (hv : v < n) {k : Nat} {d : Con} (hk : l[k]? = some d) (hkd : d.kind = 0) (hcd : 0 ≤ dd l n v d.a.toNat) {best : List Int} (hg : Good2 l n v best (fun _ k' => k' < k)) : ∀ m, m ≤ k →
    Good2 l n v ((List.range m).foldl (istep l n v k d) best) (fun i' k' => k' < k ∨ (k' = k ∧ i' < m)) := by
  intro m
  induction m with
  | zero => intro _; exact good_mono hg (fun i' k' c' d' _ => by omega)
  | succ m ih =>
    intro hm
    rw [List.range_succ, List.foldl_append]
    exact istep_good h hv hk hkd hcd (by omega) (ih (by omega))

theorem rbest_good (h : Ok l n) (hv : v < n) : ∀ m, Good2 l n v (rbest l n v m).1 (fun _ k' => k' < m) := by
  intro m
  induction m with
  | zero => exact .inl ⟨rfl, fun i k c d _ hx => by omega⟩
  | succ m ih =>
    rw [rbest_succ]
    unfold kstep
    cases hd : l[m]? with
    | none =>
      refine good_mono ih (fun i' k' c' d' hp => ?_)
      have : k' ≠ m := by
        rintro rfl
        rw [hp.hk] at hd
        cases hd
      omega
    | some d =>
      simp only
      by_cases hx : d.kind ≠ 0 ∨ dd l n v d.a.toNat < 0
      · rw [if_pos hx]
        refine good_mono ih (fun i' k' c' d' hp => ?_)
        have : k' ≠ m := by
          rintro rfl
          have e := hp.hk
          rw [hd] at e
          cases e
          rcases hx with hx | hx
          · exact hx hp.kk
          · have := hp.ck; omega
        omega
      · rw [if_neg hx]
        have hkd : d.kind = 0 := Classical.byContradiction fun hy => hx (.inl hy)
        have hcd : 0 ≤ dd l n v d.a.toNat := by
          rcases Int.lt_or_le (dd l n v d.a.toNat) 0 with hy | hy
          · exact absurd (.inr hy) hx
          · exact hy
        exact good_mono (ifold_good h hv hd hkd hcd ih m (Nat.le_refl _)) (fun i' k' c' d' hp => by have := hp.lt; omega)
end

end Go.Proofs.Ytpdimehoepfgaaa
