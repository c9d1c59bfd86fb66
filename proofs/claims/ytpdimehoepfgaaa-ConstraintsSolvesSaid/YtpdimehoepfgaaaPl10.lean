/- Plain law: the reference's Solve is the program's. No program is named here. -/
import Derived.Test.YtpdimehoepfgaaaPl9
namespace Go.Proofs.Ytpdimehoepfgaaa

def foldB (l : List Con) (n : Nat) (ms : List Int) : Option (List Int) × Ty := ms.foldl (bestStep (edgesM l n l.length) n l (marksUpto l l.length)) (none, zeroTy)

theorem foldB_succ (l : List Con) (n : Nat) (ms : List Int) (k : Nat) (z : Int) (h : ms[k]? = some z) : foldB l n (ms.take (k + 1)) = bestStep (edgesM l n l.length) n l (marksUpto l l.length) (foldB l n (ms.take k)) z := foldl_take_succ _ _ _ _ _ h

theorem best_first (l : List Con) (n : Nat) (ms : List Int) : ∀ k, k ≤ ms.length →
    (∀ ch, (foldB l n (ms.take k)).1 = some ch → ∃ p z, p < k ∧ ms[p]? = some z ∧ chainOf l n z = some ch ∧ (∀ q y ch', q < p → ms[q]? = some y → chainOf l n y = some ch' → ch.length < ch'.length) ∧ (∀ q y ch', q < k → ms[q]? = some y → chainOf l n y = some ch' → ch.length ≤ ch'.length)) ∧
    ((foldB l n (ms.take k)).1 = none → ∀ q y, q < k → ms[q]? = some y → chainOf l n y = none) := by
  intro k
  induction k with
  | zero =>
    intro _
    exact ⟨fun ch h => by simp [foldB] at h, fun _ q y hq => by omega⟩
  | succ k ih =>
    intro hk
    obtain ⟨ih1, ih2⟩ := ih (by omega)
    have hz : ms[k]? = some (ms[k]'(by omega)) := List.getElem?_eq_getElem _
    generalize ms[k]'(by omega) = z at hz
    rw [foldB_succ l n ms k z hz, bestStep_fst]
    have hsplit : ∀ q, q < k + 1 → q < k ∨ q = k := fun q hq => by omega
    cases hcz : chainOf l n z with
    | none =>
      simp only [pickBest]
      constructor
      · intro ch hch
        obtain ⟨p, y, h1, h2, h3, h4, h5⟩ := ih1 ch hch
        refine ⟨p, y, by omega, h2, h3, h4, fun q y' ch' hq hy' hc' => ?_⟩
        rcases hsplit q hq with hq | rfl
        · exact h5 q y' ch' hq hy' hc'
        · rw [hz] at hy'
          cases hy'
          rw [hcz] at hc'
          cases hc'
      · intro hn q y hq hy
        rcases hsplit q hq with hq | rfl
        · exact ih2 hn q y hq hy
        · rw [hz] at hy
          cases hy
          exact hcz
    | some c0 =>
      cases hb : (foldB l n (ms.take k)).1 with
      | none =>
        have hall := ih2 hb
        simp only [pickBest]
        constructor
        · intro ch hch
          cases hch
          refine ⟨k, z, by omega, hz, hcz, fun q y ch' hq hy hc' => ?_, fun q y ch' hq hy hc' => ?_⟩
          · rw [hall q y hq hy] at hc'; cases hc'
          · rcases hsplit q hq with hq | rfl
            · rw [hall q y hq hy] at hc'; cases hc'
            · rw [hz] at hy
              cases hy
              rw [hcz] at hc'
              cases hc'
              exact Nat.le_refl _
        · intro hx; cases hx
      | some old =>
        obtain ⟨p, y, h1, h2, h3, h4, h5⟩ := ih1 old hb
        by_cases hlt : c0.length < old.length
        · simp only [pickBest, if_pos hlt]
          constructor
          · intro ch hch
            cases hch
            refine ⟨k, z, by omega, hz, hcz, fun q y' ch' hq hy hc' => ?_, fun q y' ch' hq hy hc' => ?_⟩
            · have := h5 q y' ch' hq hy hc'; omega
            · rcases hsplit q hq with hq | rfl
              · have := h5 q y' ch' hq hy hc'; omega
              · rw [hz] at hy
                cases hy
                rw [hcz] at hc'
                cases hc'
                exact Nat.le_refl _
          · intro hx; cases hx
        · simp only [pickBest, if_neg hlt]
          constructor
          · intro ch hch
            cases hch
            refine ⟨p, y, by omega, h2, h3, h4, fun q y' ch' hq hy hc' => ?_⟩
            rcases hsplit q hq with hq | rfl
            · exact h5 q y' ch' hq hy hc'
            · rw [hz] at hy
              cases hy
              rw [hcz] at hc'
              cases hc'
              omega
          · intro hx; cases hx

theorem type_last (l : List Con) (n : Nat) (ms : List Int) : ∀ k, k ≤ ms.length →
    ((foldB l n (ms.take k)).2 = zeroTy ∧ ∀ q y c, q < k → ms[q]? = some y → l[y.toNat]? = some c → c.tk = 5 ∨ c.tk = 6) ∨
    ∃ p z c, p < k ∧ ms[p]? = some z ∧ l[z.toNat]? = some c ∧ c.tk ≠ 5 ∧ c.tk ≠ 6 ∧ (foldB l n (ms.take k)).2 = c.mark ∧ ∀ q y c', p < q → q < k → ms[q]? = some y → l[y.toNat]? = some c' → c'.tk = 5 ∨ c'.tk = 6 := by
  intro k
  induction k with
  | zero => intro _; exact .inl ⟨rfl, fun q y c hq => by omega⟩
  | succ k ih =>
    intro hk
    have hz : ms[k]? = some (ms[k]'(by omega)) := List.getElem?_eq_getElem _
    generalize ms[k]'(by omega) = z at hz
    rw [foldB_succ l n ms k z hz]
    have hsplit : ∀ q, q < k + 1 → q < k ∨ q = k := fun q hq => by omega
    have hih := ih (by omega)
    have weak : (∀ c, l[z.toNat]? = some c → c.tk = 5 ∨ c.tk = 6) → (bestStep (edgesM l n l.length) n l (marksUpto l l.length) (foldB l n (ms.take k)) z).2 = (foldB l n (ms.take k)).2 := fun hw => by
      unfold bestStep
      cases hc : l[z.toNat]? with
      | none => rfl
      | some c =>
        simp only
        rw [if_neg]
        have := hw c hc
        omega
    by_cases hw : ∀ c, l[z.toNat]? = some c → c.tk = 5 ∨ c.tk = 6
    · rw [weak hw]
      rcases hih with ⟨h1, h2⟩ | ⟨p, y, c, h1, h2, h3, h4, h5, h6, h7⟩
      · refine .inl ⟨h1, fun q y c hq hy hc => ?_⟩
        rcases hsplit q hq with hq | rfl
        · exact h2 q y c hq hy hc
        · rw [hz] at hy
          cases hy
          exact hw c hc
      · refine .inr ⟨p, y, c, by omega, h2, h3, h4, h5, h6, fun q y' c' hpq hq hy hc => ?_⟩
        rcases hsplit q hq with hq | rfl
        · exact h7 q y' c' hpq hq hy hc
        · rw [hz] at hy
          cases hy
          exact hw c' hc
    · have : ∃ c, l[z.toNat]? = some c ∧ c.tk ≠ 5 ∧ c.tk ≠ 6 := by
        refine Classical.byContradiction fun hn => hw fun c hc => ?_
        refine Classical.byContradiction fun hx => hn ⟨c, hc, fun e => hx (.inl e), fun e => hx (.inr e)⟩
      obtain ⟨c, hc, h5, h6⟩ := this
      refine .inr ⟨k, z, c, by omega, hz, hc, h5, h6, ?_, fun q y c' hpq hq => by omega⟩
      unfold bestStep
      rw [hc]
      simp only
      rw [if_pos ⟨h5, h6⟩]

theorem marks_sorted (M : Nat → List Nat) (cl : List Nat) : (marksOfClass M cl).Pairwise fun a b => decide (a ≤ b) = true := by
  unfold marksOfClass
  exact List.pairwise_mergeSort (fun a b c h1 h2 => by simp at *; omega) (fun a b => by simp; omega) _

theorem sorted_pos {ms : List Int} (h : ms.Pairwise fun a b => decide (a ≤ b) = true) {p q : Nat} {x y : Int} (hp : ms[p]? = some x) (hq : ms[q]? = some y) (hlt : x < y) : p < q := by
  obtain ⟨hp1, hp2⟩ := List.getElem?_eq_some_iff.1 hp
  obtain ⟨hq1, hq2⟩ := List.getElem?_eq_some_iff.1 hq
  rcases Nat.lt_trichotomy p q with h1 | h1 | h1
  · exact h1
  · subst h1
    rw [hp2] at hq2
    omega
  · have := List.pairwise_iff_getElem.1 h q p hq1 hp1 h1
    rw [hp2, hq2] at this
    have := of_decide_eq_true this
    omega

section
variable {l : List Con} {n v : Nat}

/-- The best chain of the program is a candidate, and not behind any other. -/
theorem prog_least (h : Ok l n) (hv : v < n) {ch : List Int} (hb : (bestOf l n v).1 = some ch) : ∃ i k c d, PairC l n v i k c d ∧ ch = cand l n i k c d ∧ ∀ i' k' c' d', PairC l n v i' k' c' d' → ord ch (cand l n i' k' c' d') := by
  have hms := marks_sorted (marksUpto l l.length) (classM (edgesM l n l.length) n v)
  have hmem := fun z => @mem_marks l n h v hv z
  have hb' := hb
  unfold bestOf at hb'
  generalize marksOfClass (marksUpto l l.length) (classM (edgesM l n l.length) n v) = ms at hms hmem hb'
  have hbf := (best_first l n ms ms.length (Nat.le_refl _)).1 ch (by rw [List.take_length]; exact hb')
  obtain ⟨p, z, hp, hpz, hcz, hfirst, _⟩ := hbf
  obtain ⟨i, c, rfl, hc, hk, hcn⟩ := (hmem z).1 (List.mem_of_getElem? hpz)
  obtain ⟨j, c', hj, hkj, hij, hx, h0, hE, hleast⟩ := chainOf_least h hc hk hcz
  have m1 := ok_mark h (List.mem_of_getElem? hc) hk
  have m2 := ok_mark h (List.mem_of_getElem? hj) hkj
  have hcnj : Conn l v c'.a.toNat := hcn.trans ((conn_dd h (by omega) (by omega)).2 h0).symm
  refine ⟨i, j, c, c', ⟨hc, hj, hk, hkj, hij, hx, (conn_dd h hv (by omega)).1 hcn, (conn_dd h hv (by omega)).1 hcnj⟩, hE, fun i' k' d d' hpr => ?_⟩
  have hlen := hpr.len h hv
  have n1 := ok_mark h (List.mem_of_getElem? hpr.hi) hpr.ki
  have n2 := ok_mark h (List.mem_of_getElem? hpr.hk) hpr.kk
  have hcn' : Conn l v d.a.toNat := (conn_dd h hv (by omega)).2 hpr.ci
  have hr := (dd_reach h (s := d'.a.toNat) (by omega) (v := d.a.toNat) (by omega) hlen.1).symm
  have hle := (best_some h hv hb).2 d d' (List.mem_of_getElem? hpr.hi) (List.mem_of_getElem? hpr.hk) hpr.ki hpr.kk hpr.ex hcn' _ hr
  rcases Nat.lt_or_ge ch.length (cand l n i' k' d d').length with hlt | hge
  · exact .inl hlt
  · have heq : (cand l n i' k' d d').length = ch.length := by omega
    refine .inr ⟨heq.symm, ?_⟩
    obtain ⟨ch2, hch2, hl2⟩ := chainOf_ne h hpr.hi hpr.ki hpr.hk hpr.kk hpr.lt hpr.ex hr
    have hin : (i' : Int) ∈ ms := (hmem _).2 ⟨i', d, rfl, hpr.hi, hpr.ki, hcn'⟩
    obtain ⟨q, hq, hqe⟩ := List.getElem_of_mem hin
    have hqs : ms[q]? = some (i' : Int) := by rw [List.getElem?_eq_getElem hq, hqe]
    have hii : i ≤ i' := by
      rcases Nat.lt_or_ge i' i with hx1 | hx1
      · have := hfirst q _ ch2 (sorted_pos hms hqs hpz (by omega)) hqs hch2
        omega
      · exact hx1
    rcases Nat.lt_or_ge i i' with hx1 | hx1
    · rw [hE]
      unfold cand
      exact Or.inl (by omega)
    · have e : i' = i := by omega
      subst e
      have e1 := hpr.hi
      rw [hc] at e1
      cases e1
      exact hleast k' d' hpr.hk hpr.kk hpr.lt hpr.ex hlen.1 heq

theorem rbest_eq (h : Ok l n) (hv : v < n) : (rbest l n v l.length).1 = ((bestOf l n v).1).getD [] := by
  have hg := rbest_good h hv l.length
  have hin : ∀ i k c d, PairC l n v i k c d → k < l.length := fun i k c d hp => (List.getElem?_eq_some_iff.1 hp.hk).1
  cases hb : (bestOf l n v).1 with
  | none =>
    rcases hg with ⟨h1, _⟩ | ⟨i, k, c, d, hp, _, _, _⟩
    · exact h1
    · have m1 := ok_mark h (List.mem_of_getElem? hp.hi) hp.ki
      have m2 := ok_mark h (List.mem_of_getElem? hp.hk) hp.kk
      have := best_none h hv hb c d (List.mem_of_getElem? hp.hi) (List.mem_of_getElem? hp.hk) hp.ki hp.kk ((conn_dd h hv (by omega)).2 hp.ci) ((conn_dd h hv (by omega)).2 hp.ck)
      rw [hp.ex] at this
      cases this
  | some ch =>
    obtain ⟨i, k, c, d, hp, hE, hall⟩ := prog_least h hv hb
    rcases hg with ⟨_, h2⟩ | ⟨i', k', c', d', hp', _, hE', hall'⟩
    · exact absurd (hin i k c d hp) (h2 i k c d hp)
    · show _ = ch
      have o1 := hall' i k c d hp (hin i k c d hp)
      have o2 := hall i' k' c' d' hp'
      rw [← hE] at o1
      rw [← hE'] at o2
      exact ord_anti o1 o2

/-- The type of the last mark that says one. -/
def LastTy (l : List Con) (n v m : Nat) (t : Ty) : Prop :=
  (t = zeroTy ∧ ∀ (i : Nat) (c : Con), i < m → l[i]? = some c → c.kind = 0 → 0 ≤ dd l n v c.a.toNat → c.tk = 5 ∨ c.tk = 6) ∨
  ∃ (i : Nat) (c : Con), i < m ∧ l[i]? = some c ∧ c.kind = 0 ∧ 0 ≤ dd l n v c.a.toNat ∧ c.tk ≠ 5 ∧ c.tk ≠ 6 ∧ t = c.mark ∧ ∀ (i' : Nat) (c' : Con), i < i' → i' < m → l[i']? = some c' → c'.kind = 0 → 0 ≤ dd l n v c'.a.toNat → c'.tk = 5 ∨ c'.tk = 6

theorem last_unique {m : Nat} {t t' : Ty} (h : LastTy l n v m t) (h' : LastTy l n v m t') : t = t' := by
  rcases h with ⟨h1, h2⟩ | ⟨i, c, a1, a2, a3, a4, a5, a6, a7, a8⟩
  · rcases h' with ⟨h1', _⟩ | ⟨i, c, a1, a2, a3, a4, a5, a6, _, _⟩
    · rw [h1, h1']
    · have := h2 i c a1 a2 a3 a4; omega
  · rcases h' with ⟨_, h2'⟩ | ⟨i', c', b1, b2, b3, b4, b5, b6, b7, b8⟩
    · have := h2' i c a1 a2 a3 a4; omega
    · rcases Nat.lt_trichotomy i i' with hx | hx | hx
      · have := a8 i' c' hx b1 b2 b3 b4; omega
      · subst hx
        rw [a2] at b2
        cases b2
        rw [a7, b7]
      · have := b8 i c hx a1 a2 a3 a4; omega

theorem rbest_last : ∀ m, LastTy l n v m (rbest l n v m).2 := by
  intro m
  induction m with
  | zero => exact .inl ⟨rfl, fun i c hi => by omega⟩
  | succ m ih =>
    have keep : (∀ c, l[m]? = some c → c.kind = 0 → 0 ≤ dd l n v c.a.toNat → c.tk = 5 ∨ c.tk = 6) → LastTy l n v (m + 1) (rbest l n v m).2 := fun hw => by
      rcases ih with ⟨h1, h2⟩ | ⟨i, c, a1, a2, a3, a4, a5, a6, a7, a8⟩
      · refine .inl ⟨h1, fun i c hi hc hk hd => ?_⟩
        by_cases hm : i = m
        · subst hm; exact hw c hc hk hd
        · exact h2 i c (by omega) hc hk hd
      · refine .inr ⟨i, c, by omega, a2, a3, a4, a5, a6, a7, fun i' c' h1 h2 hc hk hd => ?_⟩
        by_cases hm : i' = m
        · subst hm; exact hw c' hc hk hd
        · exact a8 i' c' h1 (by omega) hc hk hd
    rw [rbest_succ]
    unfold kstep
    cases hd : l[m]? with
    | none => exact keep (fun c hc => by rw [hd] at hc; cases hc)
    | some d =>
      simp only
      by_cases hx : d.kind ≠ 0 ∨ dd l n v d.a.toNat < 0
      · rw [if_pos hx]
        refine keep (fun c hc hk h0 => ?_)
        rw [hd] at hc
        cases hc
        rcases hx with hx | hx
        · exact absurd hk hx
        · omega
      · rw [if_neg hx]
        simp only
        by_cases hw : d.tk ≠ 5 ∧ d.tk ≠ 6
        · rw [if_pos hw]
          refine .inr ⟨m, d, by omega, hd, Classical.byContradiction fun hy => hx (.inl hy), ?_, hw.1, hw.2, rfl, fun i' c' h1 h2 => by omega⟩
          rcases Int.lt_or_le (dd l n v d.a.toNat) 0 with hy | hy
          · exact absurd (.inr hy) hx
          · exact hy
        · rw [if_neg hw]
          refine keep (fun c hc _ _ => ?_)
          rw [hd] at hc
          cases hc
          omega

theorem best_last (h : Ok l n) (hv : v < n) : LastTy l n v l.length (bestOf l n v).2 := by
  have hms := marks_sorted (marksUpto l l.length) (classM (edgesM l n l.length) n v)
  have hmem := fun z => @mem_marks l n h v hv z
  unfold bestOf
  generalize marksOfClass (marksUpto l l.length) (classM (edgesM l n l.length) n v) = ms at hms hmem
  have ht := type_last l n ms ms.length (Nat.le_refl _)
  rw [List.take_length] at ht
  have hpos : ∀ (i : Nat) (c : Con), l[i]? = some c → c.kind = 0 → 0 ≤ dd l n v c.a.toNat → ∃ q, q < ms.length ∧ ms[q]? = some (i : Int) := fun i c hc hk hd => by
    have m1 := ok_mark h (List.mem_of_getElem? hc) hk
    obtain ⟨q, hq, hqe⟩ := List.getElem_of_mem ((hmem (i : Int)).2 ⟨i, c, rfl, hc, hk, (conn_dd h hv (by omega)).2 hd⟩)
    exact ⟨q, hq, by rw [List.getElem?_eq_getElem hq, hqe]⟩
  rcases ht with ⟨h1, h2⟩ | ⟨p, z, c, a1, a2, a3, a4, a5, a6, a7⟩
  · refine .inl ⟨h1, fun i c _ hc hk hd => ?_⟩
    obtain ⟨q, hq, hqe⟩ := hpos i c hc hk hd
    exact h2 q _ c hq hqe (by rw [Int.toNat_natCast]; exact hc)
  · obtain ⟨i, c2, rfl, hc2, hk2, hcn2⟩ := (hmem z).1 (List.mem_of_getElem? a2)
    rw [Int.toNat_natCast, hc2] at a3
    cases a3
    have m1 := ok_mark h (List.mem_of_getElem? hc2) hk2
    refine .inr ⟨i, _, (List.getElem?_eq_some_iff.1 hc2).1, hc2, hk2, (conn_dd h hv (by omega)).1 hcn2, a4, a5, a6, fun i' c' hi' _ hc' hk' hd' => ?_⟩
    obtain ⟨q, hq, hqe⟩ := hpos i' c' hc' hk' hd'
    exact a7 q _ c' (sorted_pos hms a2 hqe (by omega)) hq hqe (by rw [Int.toNat_natCast]; exact hc')

theorem rbest_ty (h : Ok l n) (hv : v < n) : (rbest l n v l.length).2 = (bestOf l n v).2 := last_unique (rbest_last _) (best_last h hv)

/-- One vertex of the reference's Solve. -/
def rsolveStep (l : List Con) (n : Nat) (st : SolveSt) (v : Nat) : SolveSt :=
  if st.seen.getD v false = true then st
  else if (rbest l n v l.length).1 ≠ [] then ⟨setAll zeroTy st.out (classM (edgesM l n l.length) n v), st.chains ++ [(rbest l n v l.length).1], setAll true st.seen (classM (edgesM l n l.length) n v)⟩
  else ⟨setAll (rbest l n v l.length).2 st.out (classM (edgesM l n l.length) n v), st.chains, setAll true st.seen (classM (edgesM l n l.length) n v)⟩

theorem rsolve_eq (h : Ok l n) {k : Nat} (hk : k < n) : rsolveStep l n (solveUpto l n k) k = solveUpto l n (k + 1) := by
  have hi := sinv h k (by omega)
  rw [solveUpto_succ]
  unfold rsolveStep
  by_cases hs : (solveUpto l n k).seen.getD k false = true
  · rw [if_pos hs, solveStep_seen hs]
  · rw [if_neg hs]
    have hs' : (solveUpto l n k).seen.getD k false = false := by simpa using hs
    have hre := rbest_eq h hk
    have hrt := rbest_ty h hk
    cases hb : (bestOf l n k).1 with
    | some ch =>
      rw [hb] at hre
      simp only [Option.getD_some] at hre
      have hb2 : (marksOfClass (marksUpto l l.length) (classM (edgesM l n l.length) n k)).foldl (bestStep (edgesM l n l.length) n l (marksUpto l l.length)) (none, zeroTy) = (some ch, (bestOf l n k).2) := Prod.ext hb rfl
      have hne : ch ≠ [] := by
        obtain ⟨i, j, c, d, _, hE, _⟩ := prog_least h hk hb
        rw [hE]
        exact cand_ne _ _ _ _
      rw [solveStep_chain hs' hb2, hre, if_pos hne]
      congr 1
      apply List.ext_getElem?
      intro u
      rw [setAll_get]
      split
      · rename_i hu
        have hun : u < n := by rw [← hi.olen]; exact hu.2
        refine (hi.rest u hun fun w hw hc => ?_).symm
        have hku := (conn_dd h hk hun).2 (mem_class.1 hu.1).2
        exact hs ((hi.seen k hk).2 ⟨w, hw, hc.trans hku.symm⟩)
      · rfl
    | none =>
      rw [hb] at hre
      simp only [Option.getD_none] at hre
      have hb2 : (marksOfClass (marksUpto l l.length) (classM (edgesM l n l.length) n k)).foldl (bestStep (edgesM l n l.length) n l (marksUpto l l.length)) (none, zeroTy) = (none, (bestOf l n k).2) := Prod.ext hb rfl
      rw [solveStep_type hs' hb2, hre, if_neg (by simp), hrt]
end

end Go.Proofs.Ytpdimehoepfgaaa
