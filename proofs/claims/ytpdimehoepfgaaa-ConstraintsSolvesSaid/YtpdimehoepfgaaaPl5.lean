/- Plain law: chains, their constraints alone, and the types. No program is named here. -/
import Derived.Test.YtpdimehoepfgaaaPl4
namespace Go.Proofs.Ytpdimehoepfgaaa

/-- A chain of constraints. -/
structure GoodChain (l : List Con) (ch : List Int) (i j : Nat) (c c' : Con) (es : List Int) : Prop where
  shape : ch = (i : Int) :: (es ++ [(j : Int)])
  first : l[i]? = some c
  last : l[j]? = some c'
  kind : c.kind = 0
  kind' : c'.kind = 0
  lt : i < j
  excl : cexcl c c' = true
  path : PathI l c.a.toNat es c'.a.toNat
  a0 : 0 ≤ c.a
  a0' : 0 ≤ c'.a

theorem best_good {l : List Con} {n : Nat} (h : Ok l n) {v : Nat} (hv : v < n) {ch : List Int} (hb : (bestOf l n v).1 = some ch) : ∃ i j c c' es, GoodChain l ch i j c c' es ∧ Conn l v c.a.toNat ∧ (es.length : Int) = dd l n c.a.toNat c'.a.toNat := by
  obtain ⟨⟨i, j, c, c', es, h1, h2, h3, h4, h5, h6, h7, h8, h9, h10⟩, _⟩ := best_some h hv hb
  have m1 := ok_mark h (List.mem_of_getElem? h2) h3
  have m2 := ok_mark h (List.mem_of_getElem? h4) h5
  exact ⟨i, j, c, c', es, ⟨h1, h2, h4, h3, h5, h6, h7, h9, m1.1, m2.1⟩, h8, h10⟩

theorem solve_good {l : List Con} {n : Nat} (h : Ok l n) {ch : List Int} (hch : ch ∈ (solveUpto l n n).chains) : ∃ i j c c' es, GoodChain l ch i j c c' es ∧ (es.length : Int) = dd l n c.a.toNat c'.a.toNat ∧ (solveUpto l n n).out[c.a.toNat]? = some zeroTy := by
  obtain ⟨v, hv, hr, hb⟩ := (solve_chain_mem h).1 hch
  obtain ⟨i, j, c, c', es, hg, hc, hl⟩ := best_good h hv hb
  have m1 := ok_mark h (List.mem_of_getElem? hg.first) hg.kind
  refine ⟨i, j, c, c', es, hg, hl, ?_⟩
  obtain ⟨v', hv', hr', hc', ho⟩ := solve_out h (u := c.a.toNat) (by omega)
  have e : v = v' := rep_unique hr hr' (hc.trans hc'.symm)
  subst e
  rw [ho]
  unfold tyOf
  rw [hb]

def dCon : Con := ⟨0, 0, 0, 0, 0, ⟨#[]⟩, 0, 0⟩
def getC (l : List Con) (z : Int) : Con := (l[z.toNat]?).getD dCon

theorem getC_of {l : List Con} {i : Nat} {c : Con} (h : l[i]? = some c) : getC l (i : Int) = c := by
  unfold getC
  rw [Int.toNat_natCast, h]
  rfl

theorem path_range {l : List Con} : ∀ {es : List Int} {u v : Nat}, PathI l u es v → ∀ z ∈ es, ∃ (i : Nat) (c : Con), z = (i : Int) ∧ l[i]? = some c ∧ c.kind = 1
  | [], _, _, _ => fun z hz => by simp at hz
  | k :: es, u, v, ⟨i, c, w, h1, h2, h3, h4, h5⟩ => fun z hz => by
    rcases List.mem_cons.1 hz with rfl | hz
    · exact ⟨i, c, h1, h2, h3⟩
    · exact path_range h5 z hz

theorem path_in {l L : List Con} : ∀ {es : List Int} {u v : Nat}, PathI l u es v → (∀ z ∈ es, getC l z ∈ L) → Reach L es.length u v
  | [], _, _, h, _ => h
  | k :: es, u, v, ⟨i, c, w, h1, h2, h3, h4, h5⟩, hL => by
    have hm := hL k (by simp)
    rw [h1, getC_of h2] at hm
    exact ⟨w, ⟨c, hm, h3, h4⟩, path_in h5 (fun z hz => hL z (by simp [hz]))⟩

theorem filterMap_one {α β : Type} {f : α → Option β} {x : α} {y : β} : ∀ {l : List α}, l.Nodup → x ∈ l → f x = some y → (∀ z ∈ l, z ≠ x → f z = none) → l.filterMap f = [y] := by
  intro l
  induction l with
  | nil => intro _ h; simp at h
  | cons a l ih =>
    intro hn hx hf hz
    rw [List.nodup_cons] at hn
    rw [List.filterMap_cons]
    by_cases hax : a = x
    · subst hax
      rw [hf]
      have : l.filterMap f = [] := by
        rw [List.filterMap_eq_nil_iff]
        intro z hzl
        exact hz z (by simp [hzl]) (fun e => hn.1 (by rw [← e]; exact hzl))
      simp [this]
    · rw [hz a (by simp) hax]
      rcases List.mem_cons.1 hx with h1 | h1
      · exact absurd h1.symm hax
      · exact ih hn.2 h1 hf (fun z hzl => hz z (by simp [hzl]))

/-- The constraints of a chain alone are in conflict, with a chain as long. -/
theorem alone_law {l : List Con} {n : Nat} (h : Ok l n) {ch : List Int} (hch : ch ∈ (solveUpto l n n).chains) : Ok (ch.map (getC l)) n ∧ ∃ ch', (solveUpto (ch.map (getC l)) n n).chains = [ch'] ∧ ch'.length = ch.length := by
  obtain ⟨i, j, c, c', es, hg, hlen, _⟩ := solve_good h hch
  have hL : ch.map (getC l) = c :: (es.map (getC l) ++ [c']) := by
    rw [hg.shape, List.map_cons, List.map_append, List.map_cons, List.map_nil, getC_of hg.first, getC_of hg.last]
  have hsub : ∀ x ∈ ch.map (getC l), x ∈ l := by
    rw [hL]
    intro x hx
    rcases List.mem_cons.1 hx with rfl | hx
    · exact List.mem_of_getElem? hg.first
    · rcases List.mem_append.1 hx with hx | hx
      · obtain ⟨z, hz, rfl⟩ := List.mem_map.1 hx
        obtain ⟨q, d, rfl, hd, _⟩ := path_range hg.path z hz
        rw [getC_of hd]
        exact List.mem_of_getElem? hd
      · simp at hx
        subst hx
        exact List.mem_of_getElem? hg.last
  have hmark : ∀ x ∈ ch.map (getC l), x.kind = 0 → x = c ∨ x = c' := by
    rw [hL]
    intro x hx hk
    rcases List.mem_cons.1 hx with rfl | hx
    · exact .inl rfl
    · rcases List.mem_append.1 hx with hx | hx
      · obtain ⟨z, hz, rfl⟩ := List.mem_map.1 hx
        obtain ⟨q, d, rfl, hd, hk1⟩ := path_range hg.path z hz
        rw [getC_of hd, hk1] at hk
        cases hk
      · simp at hx
        exact .inr hx
  have hok : Ok (ch.map (getC l)) n := fun x hx => h x (hsub x hx)
  have hcm : c ∈ ch.map (getC l) := by rw [hL]; simp
  have hcm' : c' ∈ ch.map (getC l) := by rw [hL]; simp
  have hreach : Reach (ch.map (getC l)) es.length c.a.toNat c'.a.toNat := path_in hg.path (fun z hz => by rw [hL]; exact List.mem_cons_of_mem _ (List.mem_append.2 (.inl (List.mem_map.2 ⟨z, hz, rfl⟩))))
  generalize ch.map (getC l) = L at *
  refine ⟨hok, ?_⟩
  have m1 := ok_mark hok hcm hg.kind
  have m2 := ok_mark hok hcm' hg.kind'
  obtain ⟨v0, hv0, hr0, hc0⟩ := rep_exists (l := L) c.a.toNat
  have hv0n : v0 < n := by omega
  have hc0' : Conn L v0 c'.a.toNat := hc0.trans ⟨_, hreach⟩
  cases hb : (bestOf L n v0).1 with
  | none =>
    have := best_none hok hv0n hb c c' hcm hcm' hg.kind hg.kind' hc0 hc0'
    rw [hg.excl] at this
    cases this
  | some ch' =>
    refine ⟨ch', ?_, ?_⟩
    · rw [solve_chains hok]
      refine filterMap_one ((List.nodup_range).filter _) (List.mem_filter.2 ⟨List.mem_range.2 hv0n, (isRepB_iff hok hv0n).2 hr0⟩) hb (fun v hv hne => ?_)
      rw [List.mem_filter, List.mem_range] at hv
      cases hbv : (bestOf L n v).1 with
      | none => rfl
      | some ch'' =>
        obtain ⟨i1, j1, c1, c2, es1, hg1, hcn1, _⟩ := best_good hok hv.1 hbv
        have hrv := (isRepB_iff hok hv.1).1 hv.2
        have : Conn L v v0 := by
          rcases hmark c1 (List.mem_of_getElem? hg1.first) hg1.kind with rfl | rfl
          · exact hcn1.trans hc0.symm
          · exact hcn1.trans hc0'.symm
        exact absurd (rep_unique hrv hr0 this) hne
    · have hle := (best_some hok hv0n hb).2 c c' hcm hcm' hg.kind hg.kind' hg.excl hc0 _ hreach
      obtain ⟨i1, j1, c1, c2, es1, hg1, hcn1, _⟩ := best_good hok hv0n hb
      have hr1 := hg1.path.reach.sub (l' := l) hsub
      have hge : es.length ≤ es1.length := by
        have ha := ok_mark h (List.mem_of_getElem? hg.first) hg.kind
        have hx1 := hg1.excl
        rcases hmark c1 (List.mem_of_getElem? hg1.first) hg1.kind with e1 | e1
        · rcases hmark c2 (List.mem_of_getElem? hg1.last) hg1.kind' with e2 | e2
          · rw [e1, e2, cexcl_self] at hx1; cases hx1
          · rw [e1, e2] at hr1
            have := (dd_le h (by omega) hr1).2.2
            omega
        · rcases hmark c2 (List.mem_of_getElem? hg1.last) hg1.kind' with e2 | e2
          · rw [e1, e2] at hr1
            have := (dd_le h (by omega) hr1.symm).2.2
            omega
          · rw [e1, e2, cexcl_self] at hx1; cases hx1
      rw [hg1.shape, hg.shape]
      rw [hg1.shape] at hle
      simp at hle ⊢
      omega

/-- The types at the ends of an equality; the type at a mark. -/
theorem equal_law {l : List Con} {n : Nat} (h : Ok l n) {c : Con} (hc : c ∈ l) (hk : c.kind = 1) : ∃ t, (solveUpto l n n).out[c.a.toNat]? = some t ∧ (solveUpto l n n).out[c.b.toNat]? = some t := by
  have hb := ok_equal h hc hk
  obtain ⟨v, hv, hr, hcn, ho⟩ := solve_out h (u := c.a.toNat) (by omega)
  obtain ⟨v', hv', hr', hcn', ho'⟩ := solve_out h (u := c.b.toNat) (by omega)
  have ha : Conn l c.a.toNat c.b.toNat := ⟨1, c.b.toNat, ⟨c, hc, hk, .inl ⟨by omega, by omega⟩⟩, rfl⟩
  have e := rep_unique hr hr' ((hcn.trans ha).trans hcn'.symm)
  subst e
  exact ⟨_, ho, ho'⟩

theorem mark_law {l : List Con} {n : Nat} (h : Ok l n) {c : Con} (hc : c ∈ l) (hk : c.kind = 0) : ∃ t, (solveUpto l n n).out[c.a.toNat]? = some t ∧ (eqT t zeroTy = true ∨ exclB c.tk c.tl c.tr t.k t.n t.r = false) := by
  have hm := ok_mark h hc hk
  obtain ⟨v, hv, hr, hcn, ho⟩ := solve_out h (u := c.a.toNat) (by omega)
  refine ⟨_, ho, ?_⟩
  unfold tyOf
  cases hb : (bestOf l n v).1 with
  | some ch => exact .inl (eqT_refl _)
  | none =>
    simp only
    rcases best_type h hv with ⟨h1, _⟩ | ⟨d, hd, hk', hcn', _, _, h7⟩
    · rw [h1]; exact .inl (eqT_refl _)
    · right
      rw [h7]
      exact best_none h hv hb c d hc hd hk hk' hcn hcn'

end Go.Proofs.Ytpdimehoepfgaaa
