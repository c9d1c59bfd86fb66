/- The reference's distances, in plain words: level by level. No program is named here. -/
import Derived.Test.YtpdimehoepfgaaaPl6
namespace Go.Proofs.Ytpdimehoepfgaaa

def half (d : Int) (u v : Nat) (st : List Int × Bool) : List Int × Bool := if st.1.getD u 0 = d ∧ st.1.getD v 0 < 0 then (st.1.set v (d + 1), true) else st

def ddL (l : List Con) (n s : Nat) : List Int := distM (edgesM l n l.length) n [s]

/-- Within a round: all up to d is known, some of d + 1. -/
structure RInv (l : List Con) (n s : Nat) (d : Int) (k : Nat) (st : List Int × Bool) : Prop where
  len : st.1.length = n
  low : ∀ v, v < n → 0 ≤ dd l n s v → dd l n s v ≤ d → st.1.getD v 0 = dd l n s v
  high : ∀ v, v < n → (dd l n s v < 0 ∨ d < dd l n s v) → st.1.getD v 0 = -1 ∨ (st.1.getD v 0 = d + 1 ∧ dd l n s v = d + 1)
  done : ∀ (i : Nat) (c : Con), i < k → l[i]? = some c → c.kind = 1 → (dd l n s c.a.toNat = d → 0 ≤ st.1.getD c.b.toNat 0) ∧ (dd l n s c.b.toNat = d → 0 ≤ st.1.getD c.a.toNat 0)
  chg : st.2 = true ↔ ∃ v, v < n ∧ st.1.getD v 0 = d + 1

/-- Between two rounds. -/
structure HInv (l : List Con) (n s : Nat) (d : Int) (out : List Int) : Prop where
  len : out.length = n
  low : ∀ v, v < n → 0 ≤ dd l n s v → dd l n s v ≤ d → out.getD v 0 = dd l n s v
  high : ∀ v, v < n → (dd l n s v < 0 ∨ d < dd l n s v) → out.getD v 0 = -1

section
variable {l : List Con} {n s : Nat} {d : Int}

theorem HInv.start {out : List Int} (h : HInv l n s d out) (hd : 0 ≤ d) : RInv l n s d 0 (out, false) := by
  refine ⟨h.len, h.low, fun v hv hx => .inl (h.high v hv hx), fun i c hi => by omega, ?_⟩
  constructor
  · intro hx; cases hx
  · rintro ⟨v, hv, hx⟩
    simp only at hx
    rcases Int.lt_or_le (dd l n s v) 0 with h1 | h1
    · have := h.high v hv (.inl h1); omega
    · rcases Int.lt_or_le d (dd l n s v) with h2 | h2
      · have := h.high v hv (.inr h2); omega
      · have := h.low v hv h1 h2; omega

theorem dd_adj (h : Ok l n) (hs : s < n) {u v : Nat} (ha : Adj l u v) (h0 : 0 ≤ dd l n s u) : 0 ≤ dd l n s v ∧ dd l n s v ≤ dd l n s u + 1 := by
  have hr := (dd_reach h hs (ha.lt h).1 h0).snoc ha
  have := dd_le h hs hr
  omega

/-- What half does: nothing is lost, and a neighbour of level d gets its number. -/
theorem RInv.half {k : Nat} {st : List Int × Bool} (h : RInv l n s d k st) (hok : Ok l n) (hs : s < n) (hd : 0 ≤ d) {u v : Nat} (ha : Adj l u v) :
    RInv l n s d k (half d u v st) ∧ (dd l n s u = d → 0 ≤ (half d u v st).1.getD v 0) ∧ ∀ x, 0 ≤ st.1.getD x 0 → 0 ≤ (Go.Proofs.Ytpdimehoepfgaaa.half d u v st).1.getD x 0 := by
  have hu := (ha.lt hok).1
  have hv := (ha.lt hok).2
  unfold Go.Proofs.Ytpdimehoepfgaaa.half
  by_cases hc : st.1.getD u 0 = d ∧ st.1.getD v 0 < 0
  · rw [if_pos hc]
    have hvl : v < st.1.length := by rw [h.len]; exact hv
    have hg := fun x => getD_set st.1 v x (d + 1) 0 hvl
    have hdu : dd l n s u = d := by
      rcases Int.lt_or_le (dd l n s u) 0 with h1 | h1
      · have := h.high u hu (.inl h1); omega
      · rcases Int.lt_or_le d (dd l n s u) with h2 | h2
        · have := h.high u hu (.inr h2); omega
        · have := h.low u hu h1 h2; omega
    have hdv := dd_adj hok hs ha (by omega)
    have hdv1 : dd l n s v = d + 1 := by
      rcases Int.lt_or_le d (dd l n s v) with h2 | h2
      · omega
      · have := h.low v hv hdv.1 h2; omega
    refine ⟨⟨by simpa using h.len, fun x hx h0 h1 => ?_, fun x hx h1 => ?_, fun i c hi hci hk => ?_, ?_⟩, fun _ => ?_, fun x hx => ?_⟩
    · simp only [hg]
      split
      · rename_i e; subst e; omega
      · exact h.low x hx h0 h1
    · simp only [hg]
      split
      · rename_i e; subst e; exact .inr ⟨rfl, hdv1⟩
      · exact h.high x hx h1
    · obtain ⟨h1, h2⟩ := h.done i c hi hci hk
      simp only [hg]
      constructor
      · intro h3
        split
        · omega
        · exact h1 h3
      · intro h3
        split
        · omega
        · exact h2 h3
    · exact ⟨fun _ => ⟨v, hv, by simp only [hg, if_pos]⟩, fun _ => rfl⟩
    · simp only [hg, if_pos]; omega
    · simp only [hg]
      split
      · omega
      · exact hx
  · rw [if_neg hc]
    refine ⟨h, fun h1 => ?_, fun x hx => hx⟩
    have h2 := h.low u hu (by omega) (by omega)
    rcases Int.lt_or_le (st.1.getD v 0) 0 with h3 | h3
    · exact absurd ⟨by omega, h3⟩ hc
    · exact h3

def rstep (d : Int) (st : List Int × Bool) (c : Con) : List Int × Bool := if c.kind = 1 then half d c.b.toNat c.a.toNat (half d c.a.toNat c.b.toNat st) else st

theorem RInv.step {k : Nat} {st : List Int × Bool} (h : RInv l n s d k st) (hok : Ok l n) (hs : s < n) (hd : 0 ≤ d) {c : Con} (hc : l[k]? = some c) : RInv l n s d (k + 1) (rstep d st c) := by
  unfold rstep
  by_cases hk : c.kind = 1
  · rw [if_pos hk]
    have hm := List.mem_of_getElem? hc
    have hb := ok_equal hok hm hk
    have ha : Adj l c.a.toNat c.b.toNat := ⟨c, hm, hk, .inl ⟨by omega, by omega⟩⟩
    obtain ⟨h1, h2, h3⟩ := h.half hok hs hd ha
    obtain ⟨h4, h5, h6⟩ := h1.half hok hs hd ha.symm
    refine ⟨h4.len, h4.low, h4.high, fun i c' hi hc' hk' => ?_, h4.chg⟩
    by_cases hik : i = k
    · subst hik
      rw [hc] at hc'
      cases hc'
      exact ⟨fun hx => h6 _ (h2 hx), h5⟩
    · exact h4.done i c' (by omega) hc' hk'
  · rw [if_neg hk]
    refine ⟨h.len, h.low, h.high, fun i c' hi hc' hk' => ?_, h.chg⟩
    by_cases hik : i = k
    · subst hik
      rw [hc] at hc'
      cases hc'
      exact absurd hk' hk
    · exact h.done i c' (by omega) hc' hk'

/-- The end of a round. -/
theorem RInv.round (hok : Ok l n) (hs : s < n) (hd : 0 ≤ d) {st : List Int × Bool} (h : RInv l n s d l.length st) :
    (st.2 = true → HInv l n s (d + 1) st.1 ∧ ∃ v, v < n ∧ dd l n s v = d + 1) ∧ (st.2 = false → st.1 = ddL l n s) := by
  have hnext : ∀ v, v < n → dd l n s v = d + 1 → st.1.getD v 0 = d + 1 := fun v hv hdv => by
    rcases h.high v hv (.inr (by omega)) with h1 | h1
    · obtain ⟨u, hu, hue, hud⟩ := (dd_dist hok hs).pred v hv (by show 0 < dd l n s v; omega)
      have hud' : dd l n s u = d := by change dd l n s u = dd l n s v - 1 at hud; omega
      obtain ⟨c, hc, hk, hcase⟩ := (edge_adj hok hu).1 hue
      obtain ⟨i, hi, rfl⟩ := List.getElem_of_mem hc
      have hdn := h.done i _ hi (List.getElem?_eq_getElem hi) hk
      rcases hcase with ⟨ha, hb⟩ | ⟨hb, ha⟩
      · have := hdn.1 (by rw [ha, Int.toNat_natCast]; exact hud')
        rw [hb, Int.toNat_natCast] at this
        omega
      · have := hdn.2 (by rw [hb, Int.toNat_natCast]; exact hud')
        rw [ha, Int.toNat_natCast] at this
        omega
    · exact h1.1
  constructor
  · intro hch
    obtain ⟨v0, hv0, he0⟩ := h.chg.1 hch
    refine ⟨⟨h.len, fun v hv h0 h1 => ?_, fun v hv hx => ?_⟩, v0, hv0, ?_⟩
    · rcases Int.lt_or_le d (dd l n s v) with h2 | h2
      · have := hnext v hv (by omega); omega
      · exact h.low v hv h0 h2
    · rcases h.high v hv (by omega) with h1 | h1
      · exact h1
      · omega
    · rcases Int.lt_or_le (dd l n s v0) 0 with h1 | h1
      · have := h.high v0 hv0 (.inl h1); omega
      · rcases Int.lt_or_le d (dd l n s v0) with h2 | h2
        · have := h.high v0 hv0 (.inr h2); omega
        · have := h.low v0 hv0 h1 h2; omega
  · intro hch
    have hno : ∀ v, v < n → dd l n s v ≠ d + 1 := fun v hv he => by
      have := h.chg.2 ⟨v, hv, hnext v hv he⟩
      rw [hch] at this
      cases this
    have hle : ∀ (m : Nat) (v : Nat), v < n → dd l n s v = d + 1 + (m : Int) → False := by
      intro m
      induction m with
      | zero => intro v hv he; exact hno v hv (by omega)
      | succ m ih =>
        intro v hv he
        obtain ⟨u, hu, _, hud⟩ := (dd_dist hok hs).pred v hv (by show 0 < dd l n s v; omega)
        change dd l n s u = dd l n s v - 1 at hud
        exact ih u hu (by omega)
    have hlen : (ddL l n s).length = n := (dd_dist hok hs).len
    apply List.ext_getElem?
    intro v
    by_cases hv : v < n
    · have e1 : st.1[v]? = some (st.1.getD v 0) := by
        rw [List.getD_eq_getElem?_getD, List.getElem?_eq_getElem (by rw [h.len]; exact hv)]; rfl
      have e2 : (ddL l n s)[v]? = some (dd l n s v) := by
        unfold dd ddL at *
        rw [List.getD_eq_getElem?_getD, List.getElem?_eq_getElem (by rw [hlen]; exact hv)]; rfl
      rw [e1, e2]
      congr 1
      have hlo := dd_lo hok hs hv
      rcases Int.lt_or_le (dd l n s v) 0 with h1 | h1
      · rcases h.high v hv (.inl h1) with h2 | h2 <;> omega
      · rcases Int.lt_or_le d (dd l n s v) with h2 | h2
        · exact absurd (show dd l n s v = d + 1 + ((dd l n s v - d - 1).toNat : Int) by omega) (hle _ v hv)
        · exact h.low v hv h1 h2
    · rw [List.getElem?_eq_none (by rw [h.len]; omega), List.getElem?_eq_none (by rw [hlen]; omega)]

theorem hinv_start (hok : Ok l n) (hs : s < n) : HInv l n s 0 ((List.replicate n (-1)).set s 0) := by
  have hl : s < (List.replicate n (-1 : Int)).length := by simpa using hs
  have hg := fun x => getD_set (List.replicate n (-1 : Int)) s x 0 0 hl
  have hz := dd_self hok hs
  have hrep : ∀ v, v < n → (List.replicate n (-1 : Int)).getD v 0 = -1 := fun v hv => by simp [List.getD_eq_getElem?_getD, hv]
  refine ⟨by simp, fun v hv h0 h1 => ?_, fun v hv hx => ?_⟩
  · rw [hg]
    have hv0 : dd l n s v = 0 := by omega
    have := ((dd_dist hok hs).zero v hv).1 hv0
    simp at this
    rw [if_pos this.symm, hv0]
  · rw [hg, if_neg, hrep v hv]
    rintro rfl
    omega
end

end Go.Proofs.Ytpdimehoepfgaaa
