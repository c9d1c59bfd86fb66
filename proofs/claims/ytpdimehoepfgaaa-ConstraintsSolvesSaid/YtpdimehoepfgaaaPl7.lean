/- Plain law: a further constraint removes no conflict and makes no chain longer. No program is named here. -/
import Derived.Test.YtpdimehoepfgaaaPl6
namespace Go.Proofs.Ytpdimehoepfgaaa

theorem take_get {α : Type} {l : List α} {m i : Nat} {x : α} (h : (l.take m)[i]? = some x) : l[i]? = some x := by
  rw [List.getElem?_take] at h
  split at h
  · exact h
  · cases h

theorem PathI.take {l : List Con} {m : Nat} : ∀ {es : List Int} {u v : Nat}, PathI (l.take m) u es v → PathI l u es v
  | [], _, _, h => h
  | _ :: _, _, _, ⟨i, c, w, h1, h2, h3, h4, h5⟩ => ⟨i, c, w, h1, take_get h2, h3, h4, PathI.take h5⟩

theorem GoodChain.take {l : List Con} {m : Nat} {ch : List Int} {i j : Nat} {c c' : Con} {es : List Int} (h : GoodChain (l.take m) ch i j c c' es) : GoodChain l ch i j c c' es :=
  ⟨h.shape, take_get h.first, take_get h.last, h.kind, h.kind', h.lt, h.excl, h.path.take, h.a0, h.a0'⟩

/-- Is this a chain of the class of u, of at most m constraints? -/
def condF (l : List Con) (n u m : Nat) (ch : List Int) : Bool := decide (0 ≤ dd l n u (getC l (ch.headD 0)).a.toNat) && decide (ch.length ≤ m)

theorem grow_err {vert : Int} {l : List Con} (m : Nat) (h : solveErr vert l = 0) : solveErr vert (l.take m) = 0 := by
  obtain ⟨h0, h1, hok⟩ := err_zero h
  exact err_of h0 h1 (fun c hc => hok c (List.mem_of_mem_take hc))

theorem grow_facts {vert : Int} {l : List Con} (m : Nat) (h : solveErr vert l = 0) (hv : vert ≤ 60) (ch : List Int) (hch : ch ∈ solveChs vert (l.take m)) :
    ∃ i j c c' es, GoodChain l ch i j c c' es ∧ c.a.toNat < vert.toNat ∧ ch.length ≤ 100 ∧ ∃ other ∈ solveChs vert l, condF l vert.toNat c.a.toNat ch.length other = true := by
  obtain ⟨h0, h1, hok⟩ := err_zero h
  have he := grow_err m h
  obtain ⟨_, _, hok'⟩ := err_zero he
  have hsub : ∀ c ∈ l.take m, c ∈ l := fun c hc => List.mem_of_mem_take hc
  have hch0 := hch
  rw [(tys_of he).2] at hch
  obtain ⟨i, j, c, c', es, hg, hlen, _⟩ := solve_good hok' hch
  have hG := hg.take
  have m1 := ok_mark hok (List.mem_of_getElem? hG.first) hG.kind
  have m2 := ok_mark hok (List.mem_of_getElem? hG.last) hG.kind'
  obtain ⟨_, _, _, _, _, _, _, _, h100, _⟩ := chain_facts he hv ch hch0
  refine ⟨i, j, c, c', es, hG, by omega, h100, ?_⟩
  obtain ⟨v, hv0, hr, hc⟩ := rep_exists (l := l) c.a.toNat
  have hvn : v < vert.toNat := by omega
  have hreach := hG.path.reach
  cases hb : (bestOf l vert.toNat v).1 with
  | none =>
    have := best_none hok hvn hb c c' (List.mem_of_getElem? hG.first) (List.mem_of_getElem? hG.last) hG.kind hG.kind' hc (hc.trans ⟨_, hreach⟩)
    rw [hG.excl] at this
    cases this
  | some other =>
    have hle := (best_some hok hvn hb).2 c c' (List.mem_of_getElem? hG.first) (List.mem_of_getElem? hG.last) hG.kind hG.kind' hG.excl hc _ hreach
    obtain ⟨i2, j2, c2, c2', es2, hg2, hcn2, _⟩ := best_good hok hvn hb
    refine ⟨other, by rw [(tys_of h).2]; exact (solve_chain_mem hok).2 ⟨v, hvn, hr, hb⟩, ?_⟩
    have m3 := ok_mark hok (List.mem_of_getElem? hg2.first) hg2.kind
    have hhead : other.headD 0 = (i2 : Int) := by rw [hg2.shape]; rfl
    unfold condF
    rw [hhead, getC_of hg2.first, Bool.and_eq_true]
    refine ⟨decide_eq_true ((conn_dd hok (by omega) (by omega)).1 (hc.symm.trans hcn2)), decide_eq_true ?_⟩
    rw [hG.shape]
    simp
    omega

end Go.Proofs.Ytpdimehoepfgaaa
