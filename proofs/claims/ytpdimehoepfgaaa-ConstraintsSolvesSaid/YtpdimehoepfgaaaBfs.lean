/- The model of the search gives distances: a plain law. -/
import Derived.Test.YtpdimehoepfgaaaModel
namespace Go.Proofs.Ytpdimehoepfgaaa

/-- What the distances from F are. -/
structure Dist (E : List (List Edge)) (n : Nat) (F : List Nat) (d : List Int) : Prop where
  len : d.length = n
  lo : ∀ v, v < n → -1 ≤ d.getD v 0
  zero : ∀ v, v < n → (d.getD v 0 = 0 ↔ v ∈ F)
  pred : ∀ v, v < n → 0 < d.getD v 0 → ∃ u, u < n ∧ (∃ e ∈ E.getD u [], e.to = v) ∧ d.getD u 0 = d.getD v 0 - 1
  next : ∀ u, u < n → 0 ≤ d.getD u 0 → ∀ e ∈ E.getD u [], 0 ≤ d.getD e.to 0 ∧ d.getD e.to 0 ≤ d.getD u 0 + 1

/-- The state of the search: 'now' is the vertex whose edges are being looked at (or none), of which 'left' are still to come. -/
structure BInv (E : List (List Edge)) (n : Nat) (F : List Nat) (now : Option Nat) (left : List Edge) (out : List Int) (todo : List Nat) : Prop where
  len : out.length = n
  lo : ∀ v, v < n → -1 ≤ out.getD v 0
  zero : ∀ v, v < n → (out.getD v 0 = 0 ↔ v ∈ F)
  pred : ∀ v, v < n → 0 < out.getD v 0 → ∃ u, u < n ∧ (∃ e ∈ E.getD u [], e.to = v) ∧ out.getD u 0 = out.getD v 0 - 1
  que : ∀ u ∈ todo, u < n ∧ 0 ≤ out.getD u 0
  nowOk : ∀ v, now = some v → v < n ∧ 0 ≤ out.getD v 0 ∧ (∀ u ∈ todo, out.getD v 0 ≤ out.getD u 0) ∧ (∀ x, x < n → out.getD x 0 ≤ out.getD v 0 + 1) ∧ (∀ e ∈ left, e ∈ E.getD v [])
  sorted : todo.Pairwise (fun a b => out.getD a 0 ≤ out.getD b 0)
  top : ∀ h, todo.head? = some h → ∀ x, x < n → out.getD x 0 ≤ out.getD h 0 + 1
  done : ∀ u, u < n → 0 ≤ out.getD u 0 → u ∉ todo → now ≠ some u → ∀ e ∈ E.getD u [], 0 ≤ out.getD e.to 0 ∧ out.getD e.to 0 ≤ out.getD u 0 + 1
  half : ∀ v, now = some v → ∀ e ∈ E.getD v [], e ∈ left ∨ (0 ≤ out.getD e.to 0 ∧ out.getD e.to 0 ≤ out.getD v 0 + 1)

theorem BInv.step {E : List (List Edge)} {n : Nat} {F : List Nat} {v : Nat} {e : Edge} {left : List Edge} {out : List Int} {todo : List Nat} (h : BInv E n F (some v) (e :: left) out todo) (he : e.to < n) :
    BInv E n F (some v) left (dstep v (out, todo) e).1 (dstep v (out, todo) e).2 := by
  obtain ⟨hv, hv0, hvt, hvx, hvl⟩ := h.nowOk v rfl
  unfold dstep
  by_cases hlt : out.getD e.to 0 < 0
  · simp only [if_pos hlt]
    have hl : e.to < out.length := by rw [h.len]; exact he
    have hg := fun j => getD_set out e.to j (out.getD v 0 + 1) 0 hl
    have hne : e.to ≠ v := by rintro rfl; omega
    have hnv : (out.set e.to (out.getD v 0 + 1)).getD v 0 = out.getD v 0 := by rw [hg, if_neg hne]
    have hnt : e.to ∉ todo := fun hm => by have := (h.que _ hm).2; omega
    have hold : ∀ u, 0 ≤ out.getD u 0 → (out.set e.to (out.getD v 0 + 1)).getD u 0 = out.getD u 0 := fun u hu => by
      rw [hg, if_neg]
      rintro rfl
      omega
    have hnew : (out.set e.to (out.getD v 0 + 1)).getD e.to 0 = out.getD v 0 + 1 := by rw [hg, if_pos rfl]
    have hall : ∀ x, x < n → (out.set e.to (out.getD v 0 + 1)).getD x 0 ≤ out.getD v 0 + 1 := fun x hx => by
      rw [hg]
      split
      · omega
      · exact hvx x hx
    refine ⟨by simpa using h.len, fun u hu => ?_, fun u hu => ?_, fun u hu hpos => ?_, fun u hu => ?_, fun q hq => ?_, ?_, fun q hq x hx => ?_, fun u hu hu0 hut hun f hf => ?_, fun q hq f hf => ?_⟩
    · rw [hg]
      split
      · omega
      · exact h.lo u hu
    · rw [hg]
      split
      · rename_i hx
        subst hx
        constructor
        · intro h0; omega
        · intro hF
          have := (h.zero _ he).2 hF
          omega
      · exact h.zero u hu
    · by_cases hx : e.to = u
      · subst hx
        exact ⟨v, hv, ⟨e, hvl e (by simp), rfl⟩, by rw [hnv, hnew]; omega⟩
      · rw [hg, if_neg hx] at hpos
        obtain ⟨p, hp, hpe, hpd⟩ := h.pred u hu hpos
        refine ⟨p, hp, hpe, ?_⟩
        rw [hold p (by omega), hg, if_neg hx]
        exact hpd
    · rcases List.mem_append.1 hu with hu | hu
      · rw [hold u (h.que u hu).2]; exact h.que u hu
      · simp at hu
        subst hu
        exact ⟨he, by rw [hnew]; omega⟩
    · cases hq
      rw [hnv]
      refine ⟨hv, hv0, fun u hu => ?_, hall, fun f hf => hvl f (by simp [hf])⟩
      rcases List.mem_append.1 hu with hu | hu
      · rw [hold u (h.que u hu).2]; exact hvt u hu
      · simp at hu
        subst hu
        rw [hnew]; omega
    · rw [List.pairwise_append]
      refine ⟨?_, by simp, fun a ha b hb => ?_⟩
      · refine h.sorted.imp_of_mem fun {a b} ha hb hab => ?_
        rw [hold a (h.que a ha).2, hold b (h.que b hb).2]
        exact hab
      · simp at hb
        subst hb
        rw [hold a (h.que a ha).2, hnew]
        exact hvx a (h.que a ha).1
    · cases todo with
      | nil =>
        simp at hq
        subst hq
        rw [hnew]
        have := hall x hx
        omega
      | cons t ts =>
        simp at hq
        subst hq
        rw [hold t (h.que t (by simp)).2]
        have h1 := hall x hx
        have h2 := hvt t (by simp)
        omega
    · by_cases hx : e.to = u
      · exact absurd (List.mem_append.2 (.inr (by simp [hx]))) hut
      · rw [hg, if_neg hx] at hu0
        have h3 := h.done u hu hu0 (fun hm => hut (List.mem_append.2 (.inl hm))) hun f hf
        rw [hold _ h3.1, hold u hu0]
        exact h3
    · cases hq
      rcases h.half v rfl f hf with hm | hm
      · rcases List.mem_cons.1 hm with rfl | hm
        · exact .inr ⟨by rw [hnew]; omega, by rw [hnew, hnv]; omega⟩
        · exact .inl hm
      · exact .inr ⟨by rw [hold _ hm.1]; exact hm.1, by rw [hold _ hm.1, hnv]; exact hm.2⟩
  · simp only [if_neg hlt]
    refine ⟨h.len, h.lo, h.zero, h.pred, h.que, fun q hq => ?_, h.sorted, h.top, h.done, fun q hq f hf => ?_⟩
    · cases hq
      exact ⟨hv, hv0, hvt, hvx, fun f hf => hvl f (by simp [hf])⟩
    · cases hq
      rcases h.half v rfl f hf with hm | hm
      · rcases List.mem_cons.1 hm with rfl | hm
        · exact .inr ⟨by omega, hvx _ he⟩
        · exact .inl hm
      · exact .inr hm

theorem BInv.fold {E : List (List Edge)} {n : Nat} {F : List Nat} {v : Nat} (es : List Edge) : ∀ {out : List Int} {todo : List Nat}, BInv E n F (some v) es out todo → (∀ e ∈ es, e.to < n) →
    BInv E n F (some v) [] (es.foldl (dstep v) (out, todo)).1 (es.foldl (dstep v) (out, todo)).2 := by
  induction es with
  | nil => exact fun h _ => h
  | cons e es ih =>
    intro out todo h hes
    exact ih (h.step (hes e (by simp))) (fun f hf => hes f (by simp [hf]))

theorem BInv.pop {E : List (List Edge)} {n : Nat} {F : List Nat} {v : Nat} {out : List Int} {rest : List Nat} (h : BInv E n F none [] out (v :: rest)) : BInv E n F (some v) (E.getD v []) out rest := by
  have hs := List.pairwise_cons.1 h.sorted
  refine ⟨h.len, h.lo, h.zero, h.pred, fun u hu => h.que u (by simp [hu]), fun q hq => ?_, hs.2, fun q hq x hx => ?_, fun u hu hu0 hut hun => ?_, fun q hq f hf => ?_⟩
  · cases hq
    exact ⟨(h.que v (by simp)).1, (h.que v (by simp)).2, hs.1, h.top v rfl, fun e he => he⟩
  · have h1 := h.top v rfl x hx
    cases rest with
    | nil => simp at hq
    | cons t ts =>
      simp at hq
      subst hq
      have := hs.1 t (by simp)
      omega
  · refine h.done u hu hu0 (fun hm => ?_) (by simp)
    rcases List.mem_cons.1 hm with rfl | hm
    · exact hun rfl
    · exact hut hm
  · cases hq
    exact .inl hf

theorem BInv.end_ {E : List (List Edge)} {n : Nat} {F : List Nat} {v : Nat} {out : List Int} {todo : List Nat} (h : BInv E n F (some v) [] out todo) : BInv E n F none [] out todo := by
  refine ⟨h.len, h.lo, h.zero, h.pred, h.que, fun q hq => (by cases hq), h.sorted, h.top, fun u hu hu0 hut _ e he => ?_, fun q hq => (by cases hq)⟩
  by_cases hx : v = u
  · subst hx
    rcases h.half v rfl e he with hm | hm
    · cases hm
    · exact hm
  · exact h.done u hu hu0 hut (by simpa using hx) e he

theorem getD_edges {E : List (List Edge)} {n : Nat} (hE : ∀ es ∈ E, ∀ e ∈ es, e.to < n) (v : Nat) : ∀ e ∈ E.getD v [], e.to < n := by
  intro e he
  rw [List.getD_eq_getElem?_getD] at he
  cases hv : E[v]? with
  | none => rw [hv] at he; simp at he
  | some es => rw [hv] at he; exact hE es (List.mem_of_getElem? hv) e he

theorem bfs_dist {E : List (List Edge)} {n : Nat} {F : List Nat} (hE : ∀ es ∈ E, ∀ e ∈ es, e.to < n) : ∀ (m K : Nat) (out : List Int) (todo : List Nat), todo.length + neg out = m → Fair n K out todo → BInv E n F none [] out todo → Dist E n F (bfs E m out todo) := by
  intro m
  induction m using Nat.strongRecOn with
  | _ m ih =>
    intro K out todo hm hf h
    cases todo with
    | nil =>
      rw [bfs_nil]
      exact ⟨h.len, h.lo, h.zero, h.pred, fun u hu hu0 => h.done u hu hu0 (by simp) (by simp)⟩
    | cons v rest =>
      have h1 := hf.good.fold (E.getD v []) (getD_edges hE v)
      have h2 := (h.pop.fold (E.getD v []) (getD_edges hE v)).end_
      rw [← hm, bfs_round hf hE]
      have hm2 := h1.2
      simp only at hm2
      simp only [List.length_cons] at hm
      exact ih _ (by omega) K _ _ rfl (h1.1.fair h1.2) h2

theorem bfs_le {E : List (List Edge)} {n : Nat} (hE : ∀ es ∈ E, ∀ e ∈ es, e.to < n) : ∀ (m K : Nat) (out : List Int) (todo : List Nat), todo.length + neg out = m → Fair n K out todo → ∀ x ∈ bfs E m out todo, x ≤ K := by
  intro m
  induction m using Nat.strongRecOn with
  | _ m ih =>
    intro K out todo hm hf
    cases todo with
    | nil =>
      rw [bfs_nil]
      intro x hx
      have := hf.hi x hx
      omega
    | cons v rest =>
      have h1 := hf.good.fold (E.getD v []) (getD_edges hE v)
      rw [← hm, bfs_round hf hE]
      have hm2 := h1.2
      simp only at hm2
      simp only [List.length_cons] at hm
      exact ih _ (by omega) K _ _ rfl (h1.1.fair h1.2)

theorem distM_le (E : List (List Edge)) (n : Nat) (F : List Nat) (hE : ∀ es ∈ E, ∀ e ∈ es, e.to < n) (hF : ∀ u ∈ F, u < n) : ∀ x ∈ distM E n F, x ≤ (F.length + n : Nat) := by
  rw [← distM_start E n F hE hF]
  exact bfs_le hE _ _ _ _ rfl (fair_start n F hF)

theorem zeros_zero (n : Nat) (F : List Nat) (hF : ∀ u ∈ F, u < n) : ∀ out : List Int, out.length = n → (∀ v, v < n → -1 ≤ out.getD v 0 ∧ out.getD v 0 ≤ 0) →
    (∀ v, v < n → ((zeros out F).getD v 0 = 0 ↔ (v ∈ F ∨ out.getD v 0 = 0)) ∧ -1 ≤ (zeros out F).getD v 0 ∧ (zeros out F).getD v 0 ≤ 0) := by
  induction F with
  | nil => intro out _ h v hv; exact ⟨by simp [zeros], h v hv⟩
  | cons u F ih =>
    intro out hl h v hv
    have hu : u < out.length := by rw [hl]; exact hF u (by simp)
    have hg := fun j => getD_set out u j 0 0 hu
    obtain ⟨a, b⟩ := ih (fun x hx => hF x (by simp [hx])) (out.set u 0) (by simpa using hl) (fun x hx => by
      rw [hg]
      split
      · omega
      · exact h x hx) v hv
    refine ⟨?_, b⟩
    show (zeros (out.set u 0) F).getD v 0 = 0 ↔ _
    rw [a, hg]
    by_cases e : u = v
    · simp [e]
    · have e' : v ≠ u := fun x => e x.symm
      simp [e, e']

theorem distM_dist (E : List (List Edge)) (n : Nat) (F : List Nat) (hE : ∀ es ∈ E, ∀ e ∈ es, e.to < n) (hF : ∀ u ∈ F, u < n) : Dist E n F (distM E n F) := by
  rw [← distM_start E n F hE hF]
  have hr : ∀ v, v < n → (List.replicate n (-1 : Int)).getD v 0 = -1 := fun v hv => by
    rw [List.getD_eq_getElem?_getD, List.getElem?_replicate, if_pos hv]; rfl
  have hz := zeros_zero n F hF (List.replicate n (-1)) (by simp) (fun v hv => by rw [hr v hv]; omega)
  have hzero : ∀ v, v < n → ((zeros (List.replicate n (-1)) F).getD v 0 = 0 ↔ v ∈ F) := fun v hv => by
    rw [(hz v hv).1, hr v hv]
    simp
  refine bfs_dist hE _ _ _ _ rfl (fair_start n F hF) ⟨by rw [zeros_len]; simp, fun v hv => (hz v hv).2.1, hzero, fun v hv hpos => ?_, fun u hu => ⟨hF u hu, ?_⟩, fun q hq => (by cases hq), ?_, fun q hq x hx => ?_, fun u hu hu0 hut => ?_, fun q hq => (by cases hq)⟩
  · have := (hz v hv).2.2
    omega
  · rw [(hzero u (hF u hu)).2 hu]
    omega
  · refine List.Pairwise.imp_of_mem (R := fun _ _ => True) (fun {a b} ha hb _ => ?_) (List.pairwise_of_forall (fun _ _ => trivial))
    rw [(hzero a (hF a ha)).2 ha, (hzero b (hF b hb)).2 hb]
    omega
  · have h1 := (hz x hx).2.2
    have h2 : q ∈ F := List.mem_of_mem_head? hq
    rw [(hzero q (hF q h2)).2 h2]
    omega
  · have h1 := (hz u hu).2.2
    exact absurd ((hzero u hu).1 (by omega)) hut

end Go.Proofs.Ytpdimehoepfgaaa
