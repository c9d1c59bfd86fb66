/- Plain law: what the law of the chains asks, in one piece. No program is named here. -/
import Derived.Test.YtpdimehoepfgaaaPl5
namespace Go.Proofs.Ytpdimehoepfgaaa

theorem dd_top {l : List Con} {n s : Nat} (h : Ok l n) (hs : s < n) (v : Nat) : dd l n s v ≤ n + 1 := by
  unfold dd
  rw [List.getD_eq_getElem?_getD]
  cases hx : (distM (edgesM l n l.length) n [s])[v]? with
  | none => simp; omega
  | some x =>
    have := distM_le (edgesM l n l.length) n [s] (ok_eto h) (by simpa using hs) x (List.mem_of_getElem? hx)
    simp at this ⊢
    omega

theorem tys_of {vert : Int} {l : List Con} (h : solveErr vert l = 0) : solveTys vert l = (solveUpto l vert.toNat vert.toNat).out ∧ solveChs vert l = (solveUpto l vert.toNat vert.toNat).chains := by
  unfold solveTys solveChs
  rw [if_pos h, if_pos h]
  exact ⟨rfl, rfl⟩

theorem tys_none {vert : Int} {l : List Con} (h : solveErr vert l ≠ 0) : solveTys vert l = [] ∧ solveChs vert l = [] := by
  unfold solveTys solveChs
  rw [if_neg h, if_neg h]
  exact ⟨rfl, rfl⟩

theorem err_of {vert : Int} {l : List Con} (h0 : 0 ≤ vert) (h1 : vert ≤ 4096) (h : Ok l vert.toNat) : solveErr vert l = 0 := by
  unfold solveErr
  rw [if_neg (by omega), if_pos (List.all_eq_true.2 h)]

theorem chain_facts {vert : Int} {l : List Con} (h : solveErr vert l = 0) (hv : vert ≤ 60) (ch : List Int) (hch : ch ∈ solveChs vert l) :
    ∃ i j c c' es, GoodChain l ch i j c c' es ∧ (solveTys vert l)[c.a.toNat]? = some zeroTy ∧ c.a.toNat < vert.toNat ∧ ch.length ≤ 100 ∧ solveErr vert (ch.map (getC l)) = 0 ∧ ∃ ch', solveChs vert (ch.map (getC l)) = [ch'] ∧ ch'.length = ch.length := by
  obtain ⟨h0, h1, hok⟩ := err_zero h
  rw [(tys_of h).2] at hch
  obtain ⟨i, j, c, c', es, hg, hlen, hz⟩ := solve_good hok hch
  have m1 := ok_mark hok (List.mem_of_getElem? hg.first) hg.kind
  obtain ⟨hok', ch', hc1, hc2⟩ := alone_law hok hch
  have he := err_of h0 h1 hok'
  have ht := dd_top hok (s := c.a.toNat) (by omega) c'.a.toNat
  refine ⟨i, j, c, c', es, hg, by rw [(tys_of h).1]; exact hz, by omega, ?_, he, ch', by rw [(tys_of he).2]; exact hc1, hc2⟩
  rw [hg.shape]
  simp
  omega

theorem con_facts {vert : Int} {l : List Con} (h : solveErr vert l = 0) (c : Con) (hc : c ∈ l) :
    (c.kind = 1 ∧ 0 ≤ c.a ∧ c.a < vert ∧ 0 ≤ c.b ∧ c.b < vert ∧ ∃ t, (solveTys vert l)[c.a.toNat]? = some t ∧ (solveTys vert l)[c.b.toNat]? = some t) ∨
    (c.kind = 0 ∧ 0 ≤ c.a ∧ c.a < vert ∧ ∃ t, (solveTys vert l)[c.a.toNat]? = some t ∧ (eqT t zeroTy = true ∨ (eqT t zeroTy = false ∧ exclB c.tk c.tl c.tr t.k t.n t.r = false))) := by
  obtain ⟨h0, h1, hok⟩ := err_zero h
  rw [(tys_of h).1]
  have hk : c.kind = 0 ∨ c.kind = 1 := by
    have := hok c hc
    simp [okCon] at this
    omega
  rcases hk with hk | hk
  · right
    have hm := ok_mark hok hc hk
    obtain ⟨t, h2, h3⟩ := mark_law hok hc hk
    refine ⟨hk, hm.1, by omega, t, h2, ?_⟩
    cases he : eqT t zeroTy with
    | true => exact .inl rfl
    | false =>
      right
      rw [he] at h3
      rcases h3 with h3 | h3
      · cases h3
      · exact ⟨rfl, h3⟩
  · left
    have hm := ok_equal hok hc hk
    obtain ⟨t, h2, h3⟩ := equal_law hok hc hk
    exact ⟨hk, hm.1, by omega, hm.2.2.1, by omega, t, h2, h3⟩

theorem tys_len {vert : Int} {l : List Con} (h : solveErr vert l = 0) : ((solveTys vert l).length : Int) = vert := by
  obtain ⟨h0, _, _⟩ := err_zero h
  rw [(tys_of h).1, (solveUpto_len l vert.toNat vert.toNat).1]
  omega

end Go.Proofs.Ytpdimehoepfgaaa
