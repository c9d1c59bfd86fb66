/- Plain laws of Solve's model: which classes are gone through, in which order. No program is named here. -/
import Derived.Test.YtpdimehoepfgaaaPl2
namespace Go.Proofs.Ytpdimehoepfgaaa

def IsRep (l : List Con) (v : Nat) : Prop := ∀ u, u < v → ¬ Conn l u v
def isRepB (l : List Con) (n v : Nat) : Bool := (List.range v).all fun u => decide (dd l n u v < 0)

def tyOf (l : List Con) (n v : Nat) : Ty := match (bestOf l n v).1 with | some _ => zeroTy | none => (bestOf l n v).2

theorem setAll_get {α : Type} (x : α) (cl : List Nat) : ∀ (l : List α) (u : Nat), (setAll x l cl)[u]? = if u ∈ cl ∧ u < l.length then some x else l[u]? := by
  induction cl with
  | nil => intro l u; simp [setAll]
  | cons v cl ih =>
    intro l u
    show (setAll x (l.set v x) cl)[u]? = _
    rw [ih, List.length_set, List.getElem?_set]
    by_cases hu : u < l.length
    · by_cases hm : u ∈ cl
      · simp [hm, hu]
      · by_cases hv : v = u
        · subst hv; simp [hu]
        · have : ¬ u = v := fun e => hv e.symm
          simp [hm, hv, this]
    · have h1 : l[u]? = none := List.getElem?_eq_none (by omega)
      by_cases hv : v = u
      · subst hv; simp [hu]
      · simp [hu, hv]

section
variable {l : List Con} {n : Nat}

theorem isRepB_iff (h : Ok l n) {v : Nat} (hv : v < n) : isRepB l n v = true ↔ IsRep l v := by
  unfold isRepB IsRep
  rw [List.all_eq_true]
  constructor
  · intro h1 u hu hc
    have h2 := of_decide_eq_true (h1 u (by simpa using hu))
    have := (conn_dd h (by omega : u < n) hv).1 hc
    omega
  · intro h1 u hu
    rw [List.mem_range] at hu
    refine decide_eq_true ?_
    rcases Int.lt_or_le (dd l n u v) 0 with h2 | h2
    · exact h2
    · exact absurd ((conn_dd h (by omega) hv).2 h2) (h1 u hu)

theorem rep_unique {u v : Nat} (hu : IsRep l u) (hv : IsRep l v) (hc : Conn l u v) : u = v := by
  rcases Nat.lt_trichotomy u v with h | h | h
  · exact absurd hc (hv u h)
  · exact h
  · exact absurd hc.symm (hu v h)

theorem rep_exists (u : Nat) : ∃ v, v ≤ u ∧ IsRep l v ∧ Conn l v u := by
  induction u using Nat.strongRecOn with
  | _ u ih =>
    by_cases h : IsRep l u
    · exact ⟨u, Nat.le_refl _, h, Conn.refl _ _⟩
    · have : ∃ w, w < u ∧ Conn l w u := by
        refine Classical.byContradiction fun hn => h fun w hw hc => hn ⟨w, hw, hc⟩
      obtain ⟨w, hw, hc⟩ := this
      obtain ⟨v, hv, hr, hcv⟩ := ih w hw
      exact ⟨v, by omega, hr, hcv.trans hc⟩

/-- What holds behind the vertices below k. -/
structure SInv (l : List Con) (n k : Nat) (st : SolveSt) : Prop where
  slen : st.seen.length = n
  olen : st.out.length = n
  seen : ∀ u, u < n → (st.seen.getD u false = true ↔ ∃ v, v < k ∧ Conn l v u)
  chains : st.chains = ((List.range k).filter (isRepB l n)).filterMap fun v => (bestOf l n v).1
  out : ∀ u v, u < n → v < k → IsRep l v → Conn l v u → st.out[u]? = some (tyOf l n v)
  rest : ∀ u, u < n → (∀ v, v < k → ¬ Conn l v u) → st.out[u]? = some zeroTy

theorem sinv_step (h : Ok l n) {k : Nat} (hk : k < n) {st : SolveSt} (hi : SInv l n k st) : SInv l n (k + 1) (solveStep (edgesM l n l.length) n l (marksUpto l l.length) st k) := by
  have hsk := hi.seen k hk
  by_cases hs : st.seen.getD k false = true
  · rw [solveStep_seen hs]
    obtain ⟨v0, hv0, hc0⟩ := hsk.1 hs
    have hnr : isRepB l n k = false := by
      cases hb : isRepB l n k with
      | false => rfl
      | true => exact absurd hc0 ((isRepB_iff h hk).1 hb v0 hv0)
    refine ⟨hi.slen, hi.olen, fun u hu => ?_, ?_, fun u v hu hv hr hc => ?_, fun u hu hn => ?_⟩
    · rw [hi.seen u hu]
      constructor
      · rintro ⟨v, hv, hc⟩
        exact ⟨v, by omega, hc⟩
      · rintro ⟨v, hv, hc⟩
        by_cases hvk : v = k
        · subst hvk
          exact ⟨v0, hv0, hc0.trans hc⟩
        · exact ⟨v, by omega, hc⟩
    · rw [hi.chains, List.range_succ, List.filter_append]
      simp [hnr]
    · have hvk : v ≠ k := by
        rintro rfl
        exact hr v0 hv0 hc0
      exact hi.out u v hu (by omega) hr hc
    · exact hi.rest u hu (fun v hv => hn v (by omega))
  · have hs' : st.seen.getD k false = false := by simpa using hs
    have hnk : ∀ v, v < k → ¬ Conn l v k := fun v hv hc => hs (hsk.2 ⟨v, hv, hc⟩)
    have hrk : IsRep l k := hnk
    have hrb : isRepB l n k = true := (isRepB_iff h hk).2 hrk
    have hfil : (List.range (k + 1)).filter (isRepB l n) = (List.range k).filter (isRepB l n) ++ [k] := by
      rw [List.range_succ, List.filter_append]
      simp [hrb]
    have hmem : ∀ u, u < n → (u ∈ classM (edgesM l n l.length) n k ↔ Conn l k u) := fun u hu => by
      rw [mem_class, conn_dd h hk hu]
      exact ⟨fun hx => hx.2, fun hx => ⟨hu, hx⟩⟩
    have hseen : ∀ u, u < n → ((setAll true st.seen (classM (edgesM l n l.length) n k)).getD u false = true ↔ ∃ v, v < k + 1 ∧ Conn l v u) := fun u hu => by
      rw [List.getD_eq_getElem?_getD, setAll_get]
      by_cases hm : u ∈ classM (edgesM l n l.length) n k
      · rw [if_pos ⟨hm, by rw [hi.slen]; exact hu⟩]
        simp only [Option.getD_some, true_iff]
        exact ⟨k, by omega, (hmem u hu).1 hm⟩
      · rw [if_neg (fun hx => hm hx.1), ← List.getD_eq_getElem?_getD, hi.seen u hu]
        constructor
        · rintro ⟨v, hv, hc⟩
          exact ⟨v, by omega, hc⟩
        · rintro ⟨v, hv, hc⟩
          by_cases hvk : v = k
          · subst hvk
            exact absurd ((hmem u hu).2 hc) hm
          · exact ⟨v, by omega, hc⟩
    have hold : ∀ u v, u < n → v < k → IsRep l v → Conn l v u → u ∉ classM (edgesM l n l.length) n k := fun u v hu hv hr hc hm =>
      hnk v hv (hc.trans ((hmem u hu).1 hm).symm)
    have hfresh : ∀ u, u < n → Conn l k u → st.out[u]? = some zeroTy := fun u hu hc => hi.rest u hu (fun v hv hcv => hnk v hv (hcv.trans hc.symm))
    cases hb : (bestOf l n k).1 with
    | some ch =>
      have hb2 : (marksOfClass (marksUpto l l.length) (classM (edgesM l n l.length) n k)).foldl (bestStep (edgesM l n l.length) n l (marksUpto l l.length)) (none, zeroTy) = (some ch, (bestOf l n k).2) := Prod.ext hb rfl
      rw [solveStep_chain hs' hb2]
      have hty : tyOf l n k = zeroTy := by unfold tyOf; rw [hb]
      refine ⟨by rw [setAll_len]; exact hi.slen, hi.olen, hseen, ?_, fun u v hu hv hr hc => ?_, fun u hu hn => ?_⟩
      · simp only
        rw [hfil, List.filterMap_append, ← hi.chains]
        simp [hb]
      · by_cases hvk : v = k
        · subst hvk
          rw [hty]
          exact hfresh u hu hc
        · exact hi.out u v hu (by omega) hr hc
      · exact hi.rest u hu (fun v hv => hn v (by omega))
    | none =>
      have hb2 : (marksOfClass (marksUpto l l.length) (classM (edgesM l n l.length) n k)).foldl (bestStep (edgesM l n l.length) n l (marksUpto l l.length)) (none, zeroTy) = (none, (bestOf l n k).2) := Prod.ext hb rfl
      rw [solveStep_type hs' hb2]
      have hty : tyOf l n k = (bestOf l n k).2 := by unfold tyOf; rw [hb]
      refine ⟨by rw [setAll_len]; exact hi.slen, by rw [setAll_len]; exact hi.olen, hseen, ?_, fun u v hu hv hr hc => ?_, fun u hu hn => ?_⟩
      · simp only
        rw [hfil, List.filterMap_append, ← hi.chains]
        simp [hb]
      · simp only
        rw [setAll_get]
        by_cases hvk : v = k
        · subst hvk
          rw [if_pos ⟨(hmem u hu).2 hc, by rw [hi.olen]; exact hu⟩, hty]
        · rw [if_neg (fun hx => hold u v hu (by omega) hr hc hx.1)]
          exact hi.out u v hu (by omega) hr hc
      · simp only
        rw [setAll_get, if_neg (fun hx => hn k (by omega) ((hmem u hu).1 hx.1))]
        exact hi.rest u hu (fun v hv => hn v (by omega))

theorem sinv (h : Ok l n) : ∀ k, k ≤ n → SInv l n k (solveUpto l n k) := by
  intro k
  induction k with
  | zero =>
    intro _
    refine ⟨by simp [solveUpto], by simp [solveUpto], fun u hu => ?_, by simp [solveUpto], fun u v _ hv => by omega, fun u hu _ => ?_⟩
    · constructor
      · intro hx
        simp [solveUpto, List.getD_eq_getElem?_getD, hu] at hx
      · rintro ⟨v, hv, _⟩
        omega
    · simp [solveUpto, hu]
  | succ k ih =>
    intro hk
    rw [solveUpto_succ]
    exact sinv_step h (by omega) (ih (by omega))

/-- What Solve returns. -/
theorem solve_chains (h : Ok l n) : (solveUpto l n n).chains = ((List.range n).filter (isRepB l n)).filterMap fun v => (bestOf l n v).1 := (sinv h n (Nat.le_refl _)).chains

theorem solve_out (h : Ok l n) {u : Nat} (hu : u < n) : ∃ v, v < n ∧ IsRep l v ∧ Conn l v u ∧ (solveUpto l n n).out[u]? = some (tyOf l n v) := by
  obtain ⟨v, hv, hr, hc⟩ := rep_exists (l := l) u
  exact ⟨v, by omega, hr, hc, (sinv h n (Nat.le_refl _)).out u v hu (by omega) hr hc⟩

theorem solve_chain_mem (h : Ok l n) {ch : List Int} : ch ∈ (solveUpto l n n).chains ↔ ∃ v, v < n ∧ IsRep l v ∧ (bestOf l n v).1 = some ch := by
  rw [solve_chains h, List.mem_filterMap]
  constructor
  · rintro ⟨v, hv, hb⟩
    rw [List.mem_filter, List.mem_range] at hv
    exact ⟨v, hv.1, (isRepB_iff h hv.1).1 hv.2, hb⟩
  · rintro ⟨v, hv, hr, hb⟩
    exact ⟨v, List.mem_filter.2 ⟨List.mem_range.2 hv, (isRepB_iff h hv).2 hr⟩, hb⟩
end

end Go.Proofs.Ytpdimehoepfgaaa
