/- The plain model of the search: no program is named here. -/
namespace Go.Proofs.Ytpdimehoepfgaaa

structure Edge where
  con : Nat
  to : Nat
deriving DecidableEq

def dstep (v : Nat) (s : List Int × List Nat) (e : Edge) : List Int × List Nat :=
  if s.1.getD e.to 0 < 0 then (s.1.set e.to (s.1.getD v 0 + 1), s.2 ++ [e.to]) else s

def bfs (E : List (List Edge)) : Nat → List Int → List Nat → List Int
  | 0, out, _ => out
  | _ + 1, out, [] => out
  | f + 1, out, v :: rest => bfs E f ((E.getD v []).foldl (dstep v) (out, rest)).1 ((E.getD v []).foldl (dstep v) (out, rest)).2

def neg (out : List Int) : Nat := out.countP (fun x => decide (x < 0))

def zeros (out : List Int) (l : List Nat) : List Int := l.foldl (fun o v => o.set v 0) out

def distM (E : List (List Edge)) (n : Nat) (from_ : List Nat) : List Int := bfs E (from_.length + n) (zeros (List.replicate n (-1)) from_) from_

theorem getD_set (l : List Int) (i j : Nat) (x d : Int) (hi : i < l.length) : (l.set i x).getD j d = if i = j then x else l.getD j d := by
  simp only [List.getD_eq_getElem?_getD, List.getElem?_set]
  by_cases h : i = j
  · subst h; simp [hi]
  · simp [h]

theorem neg_set {l : List Int} {i : Nat} {x : Int} (hi : i < l.length) (hn : l.getD i 0 < 0) (hx : 0 ≤ x) : neg (l.set i x) + 1 = neg l := by
  induction l generalizing i with
  | nil => simp at hi
  | cons y ys ih =>
    cases i with
    | zero =>
      simp [neg, List.countP_cons] at *
      have h1 : ¬ x < 0 := by omega
      simp [h1, hn]
    | succ i =>
      simp only [List.length_cons, Nat.add_lt_add_iff_right, List.getD_cons_succ] at hi hn
      have := ih hi hn
      simp only [neg, List.set_cons_succ, List.countP_cons] at *
      omega

theorem neg_le (l : List Int) : neg l ≤ l.length := List.countP_le_length

/-- What holds of the state within one round (the vertex v; b bounds the distances before it). -/
structure Good (n : Nat) (b : Int) (v : Nat) (s : List Int × List Nat) : Prop where
  len : s.1.length = n
  lo : ∀ x ∈ s.1, -1 ≤ x
  hi : ∀ x ∈ s.1, x ≤ b + 1
  v0 : 0 ≤ s.1.getD v 0
  v1 : s.1.getD v 0 ≤ b
  todo : ∀ u ∈ s.2, u < n ∧ 0 ≤ s.1.getD u 0

theorem Good.step {n : Nat} {b : Int} {v : Nat} {s : List Int × List Nat} (h : Good n b v s) {e : Edge} (he : e.to < n) :
    Good n b v (dstep v s e) ∧ (dstep v s e).2.length + neg (dstep v s e).1 = s.2.length + neg s.1 := by
  unfold dstep
  by_cases hlt : s.1.getD e.to 0 < 0
  · rw [if_pos hlt]
    have hl : e.to < s.1.length := by rw [h.len]; exact he
    have hv := h.v0
    have hg := fun j => getD_set s.1 e.to j (s.1.getD v 0 + 1) 0 hl
    have hne : e.to ≠ v := by rintro rfl; omega
    refine ⟨⟨by simp [h.len], fun x hx => ?_, fun x hx => ?_, ?_, ?_, fun u hu => ?_⟩, ?_⟩
    · rcases List.mem_or_eq_of_mem_set hx with hx | rfl
      · exact h.lo x hx
      · omega
    · rcases List.mem_or_eq_of_mem_set hx with hx | rfl
      · exact h.hi x hx
      · have := h.v1; omega
    · rw [hg, if_neg hne]; exact h.v0
    · rw [hg, if_neg hne]; exact h.v1
    · rcases List.mem_append.1 hu with hu | hu
      · refine ⟨(h.todo u hu).1, ?_⟩
        show 0 ≤ (s.1.set e.to (s.1.getD v 0 + 1)).getD u 0
        rw [hg]
        split
        · omega
        · exact (h.todo u hu).2
      · simp at hu
        subst hu
        refine ⟨he, ?_⟩
        show 0 ≤ (s.1.set e.to (s.1.getD v 0 + 1)).getD e.to 0
        rw [hg, if_pos rfl]
        omega
    · have := neg_set (x := s.1.getD v 0 + 1) hl hlt (by omega)
      show (s.2 ++ [e.to]).length + neg (s.1.set e.to (s.1.getD v 0 + 1)) = _
      rw [List.length_append, List.length_singleton]
      omega
  · rw [if_neg hlt]
    exact ⟨h, rfl⟩

theorem Good.fold {n : Nat} {b : Int} {v : Nat} (es : List Edge) : ∀ {s : List Int × List Nat}, Good n b v s → (∀ e ∈ es, e.to < n) →
    Good n b v (es.foldl (dstep v) s) ∧ (es.foldl (dstep v) s).2.length + neg (es.foldl (dstep v) s).1 = s.2.length + neg s.1 := by
  induction es with
  | nil => exact fun h _ => ⟨h, rfl⟩
  | cons e es ih =>
    intro s h hes
    have h1 := h.step (hes e (by simp))
    have h2 := ih h1.1 (fun e he => hes e (by simp [he]))
    exact ⟨h2.1, h2.2.trans h1.2⟩

/-- What holds between two rounds: K bounds the measure at the start. -/
structure Fair (n K : Nat) (out : List Int) (todo : List Nat) : Prop where
  len : out.length = n
  lo : ∀ x ∈ out, -1 ≤ x
  hi : ∀ x ∈ out, x + (todo.length + neg out : Nat) ≤ K
  todo : ∀ u ∈ todo, u < n ∧ 0 ≤ out.getD u 0

theorem getD_mem {l : List Int} {i : Nat} (h : i < l.length) : l.getD i 0 ∈ l := by
  rw [List.getD_eq_getElem?_getD, List.getElem?_eq_getElem h]
  exact List.getElem_mem h

theorem Fair.good {n K : Nat} {out : List Int} {v : Nat} {rest : List Nat} (h : Fair n K out (v :: rest)) : Good n (K - (rest.length + 1 + neg out : Nat) : Int) v (out, rest) := by
  have hv := h.todo v (by simp)
  have hm := h.hi _ (getD_mem (l := out) (i := v) (by rw [h.len]; exact hv.1))
  simp only [List.length_cons] at hm
  refine ⟨h.len, h.lo, fun x hx => ?_, hv.2, ?_, fun u hu => h.todo u (by simp [hu])⟩
  · have := h.hi x hx
    simp only [List.length_cons] at this
    omega
  · show out.getD v 0 ≤ _
    omega

theorem Good.fair {n K : Nat} {out : List Int} {v : Nat} {rest : List Nat} {s : List Int × List Nat} (h : Good n (K - (rest.length + 1 + neg out : Nat) : Int) v s) (hm : s.2.length + neg s.1 = rest.length + neg out) : Fair n K s.1 s.2 :=
  ⟨h.len, h.lo, fun x hx => by have := h.hi x hx; omega, h.todo⟩

theorem bfs_round {E : List (List Edge)} {n K : Nat} {out : List Int} {v : Nat} {rest : List Nat} (h : Fair n K out (v :: rest)) (hE : ∀ es ∈ E, ∀ e ∈ es, e.to < n) :
    bfs E ((v :: rest).length + neg out) out (v :: rest) =
      bfs E (((E.getD v []).foldl (dstep v) (out, rest)).2.length + neg ((E.getD v []).foldl (dstep v) (out, rest)).1) ((E.getD v []).foldl (dstep v) (out, rest)).1 ((E.getD v []).foldl (dstep v) (out, rest)).2 := by
  have hes : ∀ e ∈ E.getD v [], e.to < n := by
    intro e he
    rw [List.getD_eq_getElem?_getD] at he
    cases hv : E[v]? with
    | none => rw [hv] at he; simp at he
    | some es => rw [hv] at he; exact hE es (List.mem_of_getElem? hv) e he
  have h1 := h.good.fold (E.getD v []) hes
  rw [h1.2, List.length_cons, show rest.length + 1 + neg out = (rest.length + neg out) + 1 by omega]
  rfl

theorem bfs_nil (E : List (List Edge)) (f : Nat) (out : List Int) : bfs E f out [] = out := by cases f <;> rfl

theorem foldl_take_succ {α β : Type} (f : β → α → β) (b : β) (l : List α) (k : Nat) (x : α) (h : l[k]? = some x) : (l.take (k + 1)).foldl f b = f ((l.take k).foldl f b) x := by
  rw [List.take_add_one, h, List.foldl_append]
  rfl

theorem zeros_len (l : List Nat) : ∀ out : List Int, (zeros out l).length = out.length := by
  induction l with
  | nil => exact fun _ => rfl
  | cons v l ih => intro out; exact (ih _).trans (by simp)

theorem fill_step (n k : Nat) (x y : Int) (h : k < n) : (List.replicate k x ++ List.replicate (n - k) y).set k x = List.replicate (k + 1) x ++ List.replicate (n - (k + 1)) y := by
  have e : n - k = (n - (k + 1)) + 1 := by omega
  rw [e, List.replicate_succ, List.set_append]
  simp [List.replicate_succ', List.append_assoc]

theorem zeros_take (out : List Int) (l : List Nat) (k v : Nat) (h : l[k]? = some v) : zeros out (l.take (k + 1)) = (zeros out (l.take k)).set v 0 := foldl_take_succ _ _ _ _ _ h

theorem neg_replicate (n : Nat) : neg (List.replicate n (-1)) = n := by simp [neg, List.countP_replicate]

theorem zeros_spec (n : Nat) (F : List Nat) (hF : ∀ u ∈ F, u < n) : ∀ out : List Int, out.length = n → (∀ x ∈ out, -1 ≤ x ∧ x ≤ 0) →
    (∀ x ∈ zeros out F, -1 ≤ x ∧ x ≤ 0) ∧ (∀ u, 0 ≤ out.getD u 0 ∨ u ∈ F → 0 ≤ (zeros out F).getD u 0) ∧ neg (zeros out F) ≤ neg out := by
  induction F with
  | nil => exact fun out _ h => ⟨h, fun u hu => by simpa [zeros] using hu, Nat.le_refl _⟩
  | cons v F ih =>
    intro out hl h
    have hv : v < out.length := by rw [hl]; exact hF v (by simp)
    have h1 : ∀ x ∈ out.set v 0, -1 ≤ x ∧ x ≤ 0 := fun x hx => by
      rcases List.mem_or_eq_of_mem_set hx with hx | rfl
      · exact h x hx
      · omega
    obtain ⟨a, b, c⟩ := ih (fun u hu => hF u (by simp [hu])) (out.set v 0) (by simpa using hl) h1
    refine ⟨a, fun u hu => b u ?_, Nat.le_trans c ?_⟩
    · rw [getD_set out v u 0 0 hv]
      by_cases e : v = u
      · left; simp [e]
      · rcases hu with hu | hu
        · left; simpa [e] using hu
        · rcases List.mem_cons.1 hu with hu | hu
          · exact absurd hu.symm e
          · exact .inr hu
    · by_cases hn : out.getD v 0 < 0
      · have := neg_set (x := 0) hv hn (by omega)
        omega
      · have he : out.set v 0 = out := by
          have h2 := h _ (getD_mem hv)
          have h3 : out.getD v 0 = 0 := by omega
          apply List.ext_getElem?
          intro i
          rw [List.getElem?_set]
          split
          · rename_i e
            subst e
            rw [List.getD_eq_getElem?_getD, List.getElem?_eq_getElem hv] at h3
            simp at h3
            simp [List.getElem?_eq_getElem hv, h3]
          · rfl
        rw [he]
        exact Nat.le_refl _

theorem fair_start (n : Nat) (F : List Nat) (hF : ∀ u ∈ F, u < n) : Fair n (F.length + n) (zeros (List.replicate n (-1)) F) F := by
  obtain ⟨a, b, c⟩ := zeros_spec n F hF (List.replicate n (-1)) (by simp) (by intro x hx; have := List.eq_of_mem_replicate hx; omega)
  rw [neg_replicate] at c
  exact ⟨by rw [zeros_len]; simp, fun x hx => (a x hx).1, fun x hx => by have := (a x hx).2; omega, fun u hu => ⟨hF u hu, b u (.inr hu)⟩⟩

/-- More fuel than the measure changes nothing. -/
theorem bfs_more {E : List (List Edge)} {n : Nat} (hE : ∀ es ∈ E, ∀ e ∈ es, e.to < n) : ∀ (m K f : Nat) (out : List Int) (todo : List Nat), todo.length + neg out = m → Fair n K out todo → m ≤ f → bfs E f out todo = bfs E m out todo := by
  intro m
  induction m using Nat.strongRecOn with
  | _ m ih =>
    intro K f out todo hm h hf
    cases todo with
    | nil => rw [bfs_nil, bfs_nil]
    | cons v rest =>
      have hr := bfs_round h hE
      have hes : ∀ e ∈ E.getD v [], e.to < n := by
        intro e he
        rw [List.getD_eq_getElem?_getD] at he
        cases hv : E[v]? with
        | none => rw [hv] at he; simp at he
        | some es => rw [hv] at he; exact hE es (List.mem_of_getElem? hv) e he
      have h1 := h.good.fold (E.getD v []) hes
      have hfa := h1.1.fair h1.2
      rw [← hm, hr]
      simp only [List.length_cons] at hm
      obtain ⟨f, rfl⟩ : ∃ f', f = f' + 1 := ⟨f - 1, by omega⟩
      have hm2 := h1.2
      simp only at hm2
      exact ih _ (by omega) K f _ _ rfl hfa (by omega)

theorem distM_start (E : List (List Edge)) (n : Nat) (F : List Nat) (hE : ∀ es ∈ E, ∀ e ∈ es, e.to < n) (hF : ∀ u ∈ F, u < n) :
    bfs E (F.length + neg (zeros (List.replicate n (-1)) F)) (zeros (List.replicate n (-1)) F) F = distM E n F := by
  have h := fair_start n F hF
  have hz := (zeros_spec n F hF (List.replicate n (-1)) (by simp) (by intro x hx; have := List.eq_of_mem_replicate hx; omega)).2.2
  rw [neg_replicate] at hz
  exact (bfs_more hE _ _ _ _ _ rfl h (by omega)).symm

end Go.Proofs.Ytpdimehoepfgaaa
