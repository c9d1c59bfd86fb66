/- TemplatesUndoes: an edit, and then the edit that undoes it, gives the tree. Part 5 of 14. -/
import Derived.Test.YtfkdkbekmimhoaaGreatDoorUnd04
import Derived.Maps.RangeRun
import Derived.Below
/- The machine for closed runs: a range over a map in any order. -/
namespace Go.Proofs.YtfkdkbekmimhoaaGreatDoor

theorem meEq_ok {x y : ME} (h : meEq x y = true) : x = y := by
  have ib : ∀ {b c : Bool}, ifB b c false = true → b = true ∧ c = true := fun {b c} h => by cases b <;> cases c <;> first | exact ⟨rfl, rfl⟩ | cases h
  obtain ⟨h1, h⟩ := ib h
  obtain ⟨h2, h3⟩ := ib h
  cases x; cases y
  simp only at h1 h2 h3
  rw [avEq1_ok h1, avEq1_ok h2, beq_of h3]
theorem mesEq_ok : ∀ {l m : List ME}, mesEq l m = true → l = m
  | [], [], _ => rfl
  | [], _ :: _, h => by cases h
  | _ :: _, [], h => by cases h
  | a :: l, b :: m, h => by
    have h : ifB (meEq a b) (mesEq l m) false = true := h
    cases h1 : meEq a b with
    | true => rw [h1, ifB_t] at h; rw [meEq_ok h1, mesEq_ok h]
    | false => rw [h1] at h; cases h
theorem mapEq_ok {x y : Option OB} (h : mapEq x y = true) : ∃ a b, x = some a ∧ y = some b ∧ a.kind = 1 ∧ b.kind = 1 ∧ a.n = b.n ∧ a.es = b.es := by
  have ib : ∀ {b c : Bool}, ifB b c false = true → b = true ∧ c = true := fun {b c} h => by cases b <;> cases c <;> first | exact ⟨rfl, rfl⟩ | cases h
  cases x with
  | none => cases h
  | some a =>
    cases y with
    | none => cases h
    | some b =>
      obtain ⟨h1, h⟩ := ib h
      obtain ⟨h2, h⟩ := ib h
      obtain ⟨h3, h4⟩ := ib h
      exact ⟨a, b, rfl, rfl, beq_of h1, beq_of h2, beq_of h3, mesEq_ok h4⟩

section
variable {P : Program} {r s s2 : Ren} {h g g2 h2 : AH} {w w' : World}
theorem Rel.same_map (h1 : Rel P r h w) {w' : World} (h2 : Rel P s g w') {i : Nat} {a b : OB} {p q : Pl} (ha : h.get i = some a) (hb : g.get i = some b) (hp : r i = some p) (hq : s i = some q) (hk : a.kind = 1) (hk' : b.kind = 1) (hn : a.n = b.n) (he : a.es = b.es) : a = b := by
  have e1 := h1.live _ _ _ ha hp
  have e2 := h2.live _ _ _ hb hq
  cases e1 with
  | map _ _ _ =>
    cases e2 with
    | map _ _ _ => simp [OB.map] at hn he ⊢; exact ⟨hn, he⟩
    | arr _ _ _ _ _ _ => cases hk'
    | lit _ _ _ _ _ => cases hk'
    | iter _ _ _ => cases hk'
    | loop _ _ _ _ _ _ _ _ => cases hk'
  | arr _ _ _ _ _ _ => cases hk
  | lit _ _ _ _ _ => cases hk
  | iter _ _ _ => cases hk
  | loop _ _ _ _ _ _ _ _ => cases hk

/-- A walk in a part of memory is a walk in the whole. -/
theorem Post.union {h' : AH} {own : Nat} (hr : Rel P s h w) (hg : ∀ i o, g.get i = some o → h.get i = some o) (hn : g.next = h.next) (hp : Post P s g w s2 h2 w') (hn2 : h2.next = h.next) (hn' : h'.next = h.next)
    (ho : (h.get own).isSome = true) (hso : (s own).isSome = true) (h1 : h'.get own = h2.get own) (h3 : ∀ i, i ≠ own → h'.get i = h.get i) (hsame : ∀ i o p, i ≠ own → g.get i = some o → s i = some p → h2.get i = some o) (hfz : Froz h h') : Post P s h w s2 h' w' := by
  have hs : ∀ i p, s2 i = some p → s i = some p := fun i p hi => by
    rcases hp.new i p hi with e | e
    · exact e
    · omega
  have hdom : ∀ i o, h'.get i = some o → ∃ o', h.get i = some o' := fun i o hi => by
    by_cases e : i = own
    · subst e
      exact Option.isSome_iff_exists.1 ho
    · rw [h3 i e] at hi
      exact ⟨o, hi⟩
  refine ⟨⟨fun i o hi => ?_, fun i o p hi hpi => ?_, fun i j o o' p q hi hj hpi hqj he => ?_, fun i p hi => ?_, fun i o hi => ?_⟩, hp.ext, fun i p hi => .inl (hs i p hi), by omega, hp.size, fun b hb hno => hp.frame b hb fun i o p hi hpi => hno i o p (hg i o hi) hpi, fun i o p hi hpi => ?_, fun i hi hni => ?_, hp.os, hp.tape, hp.output, hfz⟩
  · obtain ⟨o', e⟩ := hdom i o hi
    exact hr.small _ _ e
  · by_cases e : i = own
    · subst e
      rw [h1] at hi
      exact hp.rel.live _ _ _ hi hpi
    · rw [h3 i e] at hi
      have hsi := hs i p hpi
      cases hgi : g.get i with
      | some o' =>
        have e2 := hg _ _ hgi
        rw [hi] at e2
        cases e2
        exact hp.rel.live _ _ _ (hsame i o p e hgi hsi) hpi
      | none =>
        refine ((hr.live _ _ _ hi hsi).mono hp.ext).same (hp.frame _ (hr.dom _ _ hsi).2 fun j o' q hj hq hb => ?_)
        have := hr.inj j i o' o q p (hg _ _ hj) hi hq hsi hb
        rw [this, hgi] at hj
        cases hj
  · obtain ⟨o1, e1⟩ := hdom i o hi
    obtain ⟨o2, e2⟩ := hdom j o' hj
    exact hr.inj i j o1 o2 p q e1 e2 (hs _ _ hpi) (hs _ _ hqj) he
  · have := hr.dom i p (hs i p hi)
    have := hp.size
    omega
  · obtain ⟨o', e⟩ := hdom i o hi
    have := hr.top _ _ e
    omega
  · obtain ⟨o', e⟩ := hdom i o hi
    exact .inr ⟨i, o', p, e, hs i p hpi, rfl⟩
  · refine h3 i fun e => ?_
    subst e
    rw [hni] at hso
    cases hso
/-- A block that nothing lives in is written. -/
theorem Post.far {b : Nat} (hr : Rel P r h w) (hno : ∀ i o p, h.get i = some o → r i = some p → p.blk ≠ b) (hw : ∀ c, c ≠ b → w'.heap[c]? = w.heap[c]?) (hz : w'.heap.size = w.heap.size) :
    Rel P r h w' :=
  ⟨hr.small, fun i o p h1 h2 => (hr.live i o p h1 h2).same (hw _ (hno i o p h1 h2)), hr.inj, fun i p hp => by have := hr.dom i p hp; omega, hr.top⟩
end

/-! ### What the machine's walk says -/
theorem ifB2 {b c : Bool} (h : ifB b c false = true) : b = true ∧ c = true := by cases b <;> cases c <;> first | exact ⟨rfl, rfl⟩ | cases h
theorem mapsK_cons {h : AH} {t : Fr} {g : AH} {j : Nat} {l : List Nat} : mapsK h t g (j :: l) = mapsK h t g l ∨ ∃ o, ((evB (.tmp j)).f t).tag = 5 ∧ ((evB (.tmp j)).f t).a = 1 ∧ h.get ((evB (.tmp j)).f t).b = some o ∧ o.kind = 1 ∧ mapsK h t g (j :: l) = AH.put (mapsK h t g l) ((evB (.tmp j)).f t).b (some o) := by
  have e : mapsK h t g (j :: l) = ifB (Nat.beq ((evB (.tmp j)).f t).tag 5) (ifB (Nat.beq ((evB (.tmp j)).f t).a 1) (optK (mapsK h t g l) (h.get ((evB (.tmp j)).f t).b) fun o => ifB (Nat.beq o.kind 1) (AH.put (mapsK h t g l) ((evB (.tmp j)).f t).b (some o)) (mapsK h t g l)) (mapsK h t g l)) (mapsK h t g l) := rfl
  rw [e]
  cases h1 : Nat.beq ((evB (.tmp j)).f t).tag 5 with
  | false => exact .inl rfl
  | true =>
    cases h2 : Nat.beq ((evB (.tmp j)).f t).a 1 with
    | false => exact .inl rfl
    | true =>
      cases h3 : h.get ((evB (.tmp j)).f t).b with
      | none => exact .inl rfl
      | some o =>
        cases h4 : Nat.beq o.kind 1 with
        | false => left; show ifB (Nat.beq o.kind 1) _ _ = _; rw [h4]; rfl
        | true => exact .inr ⟨o, beq_of h1, beq_of h2, rfl, beq_of h4, by show ifB (Nat.beq o.kind 1) _ _ = _; rw [h4]; rfl⟩
theorem mapsK_get {h : AH} {t : Fr} {N : Nat} : ∀ (l : List Nat) (i : Nat) (o : OB), (mapsK h t ⟨.nil, N⟩ l).get i = some o → h.get i = some o ∧ o.kind = 1 ∧ ∃ j ∈ l, ((evB (.tmp j)).f t).tag = 5 ∧ ((evB (.tmp j)).f t).a = 1 ∧ ((evB (.tmp j)).f t).b = i
  | [], i, o, hg => by
    rw [show mapsK h t ⟨.nil, N⟩ [] = ⟨.nil, N⟩ from rfl, AH.get_nil] at hg
    cases hg
  | j :: l, i, o, hg => by
    have old : (mapsK h t ⟨.nil, N⟩ l).get i = some o → h.get i = some o ∧ o.kind = 1 ∧ ∃ j' ∈ j :: l, ((evB (.tmp j')).f t).tag = 5 ∧ ((evB (.tmp j')).f t).a = 1 ∧ ((evB (.tmp j')).f t).b = i := fun e => by
      obtain ⟨h1, h0, j', h2, h3⟩ := mapsK_get l i o e
      exact ⟨h1, h0, j', List.mem_cons_of_mem _ h2, h3⟩
    rcases mapsK_cons (h := h) (t := t) (g := ⟨.nil, N⟩) (j := j) (l := l) with e | ⟨o', h1, h2, h3, h4, e⟩
    · rw [e] at hg; exact old hg
    · rw [e, AH.get_put] at hg
      split at hg
      · rename_i e2
        cases hg
        exact ⟨by rw [e2.1]; exact h3, h4, j, List.mem_cons_self, h1, h2, e2.1.symm⟩
      · exact old hg
theorem mapsK_next {h : AH} {t : Fr} {N : Nat} : ∀ (l : List Nat), (mapsK h t ⟨.nil, N⟩ l).next = N
  | [] => rfl
  | j :: l => by
    rcases mapsK_cons (h := h) (t := t) (g := ⟨.nil, N⟩) (j := j) (l := l) with e | ⟨o', h1, h2, h3, h4, e⟩
    · rw [e]; exact mapsK_next l
    · rw [e]; exact mapsK_next l
theorem sameMaps_ok {h g : AH} {t : Fr} : ∀ {l : List Nat}, sameMaps h g t l = true → ∀ j ∈ l, ((evB (.tmp j)).f t).tag = 5 → ((evB (.tmp j)).f t).a = 1 → mapEq (h.get ((evB (.tmp j)).f t).b) (g.get ((evB (.tmp j)).f t).b) = true
  | [], _, j, hj, _, _ => by cases hj
  | i :: l, hs, j, hj, h5, h1 => by
    have hs : ifB (Nat.beq ((evB (.tmp i)).f t).tag 5) (ifB (Nat.beq ((evB (.tmp i)).f t).a 1) (ifB (mapEq (h.get ((evB (.tmp i)).f t).b) (g.get ((evB (.tmp i)).f t).b)) (sameMaps h g t l) false) (sameMaps h g t l)) (sameMaps h g t l) = true := hs
    rcases List.mem_cons.1 hj with rfl | hj
    · rw [h5, h1] at hs
      exact (ifB2 hs).1
    · refine sameMaps_ok (l := l) ?_ j hj h5 h1
      cases e1 : Nat.beq ((evB (.tmp i)).f t).tag 5 with
      | false => rw [e1, ifB_f] at hs; exact hs
      | true =>
        rw [e1, ifB_t] at hs
        cases e2 : Nat.beq ((evB (.tmp i)).f t).a 1 with
        | false => rw [e2, ifB_f] at hs; exact hs
        | true => rw [e2, ifB_t] at hs; exact (ifB2 hs).2
theorem sameT_ok {t u : Fr} {l : List Nat} : ∀ {n : Nat}, sameT t u l n = true → ∀ i, i < n → l.elem i = false → (evB (.tmp i)).f t = (evB (.tmp i)).f u
  | 0, _, i, hi, _ => by omega
  | n + 1, hs, i, hi, hl => by
    have hs : ifB (l.elem n) (sameT t u l n) (ifB (avEq ((evB (.tmp n)).f t) ((evB (.tmp n)).f u)) (sameT t u l n) false) = true := hs
    cases e : l.elem n with
    | true =>
      rw [e, ifB_t] at hs
      refine sameT_ok hs i ?_ hl
      have : i ≠ n := fun e2 => by rw [e2, e] at hl; cases hl
      omega
    | false =>
      rw [e, ifB_f] at hs
      obtain ⟨h1, h2⟩ := ifB2 hs
      by_cases e2 : i = n
      · rw [e2]; exact avEq_ok h1
      · exact sameT_ok h2 i (by omega) hl
theorem junkK_get {t : Fr} {i : Nat} (hi : i < 512) : ∀ {l : List Nat}, (junkK t l).get i = if l.elem i then .junk else t.get i
  | [] => rfl
  | j :: l => by
    show (ifB (Nat.blt j 512) ((setF j).f (junkK t l) .junk) (junkK t l)).get i = _
    have ih := junkK_get (t := t) hi (l := l)
    have he : (j :: l).elem i = (i == j || l.elem i) := by
      rw [List.elem_cons]
      cases h : i == j <;> simp
    rw [he]
    cases hb : Nat.blt j 512 with
    | false =>
      have : ¬ j < 512 := fun e => by rw [show Nat.blt j 512 = true from Nat.ble_eq_true_of_le e] at hb; cases hb
      have hne : (i == j) = false := beq_eq_false_iff_ne.2 (by omega)
      rw [ifB_f, ih, hne, Bool.false_or]
    | true =>
      have hj : j < 512 := Nat.le_of_ble_eq_true hb
      rw [ifB_t, setF_get hi hj]
      by_cases e : i = j
      · subst e; simp
      · have hne : (i == j) = false := beq_eq_false_iff_ne.2 e
        rw [if_neg e, ih, hne, Bool.false_or]
theorem ownsOk_ok : ∀ {l : List ME}, ownsOk l = true → l.Pairwise fun e f => f.val.b ≠ e.val.b ∧ f.born ≠ e.born
  | [], _ => .nil
  | e :: l, h => by
    have h : ifB (l.all fun f => !Nat.beq f.val.b e.val.b && !Nat.beq f.born e.born) (ownsOk l) false = true := h
    obtain ⟨h1, h2⟩ := ifB2 h
    refine .cons (fun f hf => ?_) (ownsOk_ok h2)
    have := List.all_eq_true.1 h1 f hf
    simp only [Bool.and_eq_true, Bool.not_eq_true'] at this
    exact ⟨(fun e2 => by rw [e2, Nat.beq_refl] at this; cases this.1), (fun e2 => by rw [e2, Nat.beq_refl] at this; cases this.2)⟩
/-- What every entry's walk leaves, one behind the other. -/
theorem fold_res {res res' : Nat → OB} (l : List ME) : ∀ {h : AH}, (∀ e ∈ l, res e.born = res' e.born) → l.foldl (fun h e => h.put e.val.b (some (res e.born))) h = l.foldl (fun h e => h.put e.val.b (some (res' e.born))) h := by
  induction l with
  | nil => intro h _; simp only [List.foldl_nil]
  | cons e l ih =>
    intro h hr
    simp only [List.foldl_cons]
    rw [hr e List.mem_cons_self]
    exact ih fun f hf => hr f (List.mem_cons_of_mem _ hf)
theorem anyAll_ok {x : RV} {one : ME → (OB → R) → R} {Good : ME → OB → Prop} (hone : ∀ e k, one e k = some x → ∃ o, Good e o ∧ k o = some x) : ∀ {l : List ME} {h : AH} {k : AH → R}, l.Pairwise (fun e f => f.born ≠ e.born) → anyAllK one l h k = some x →
    ∃ res : Nat → OB, k (l.foldl (fun h e => h.put e.val.b (some (res e.born))) h) = some x ∧ ∀ e ∈ l, Good e (res e.born)
  | [], h, k, _, hf => ⟨fun _ => .arr [] 0, hf, fun _ he => by cases he⟩
  | e :: l, h, k, hp, hf => by
    obtain ⟨hp1, hp2⟩ := List.pairwise_cons.1 hp
    have hf : one e (fun o => anyAllK one l (h.put e.val.b (some o)) k) = some x := hf
    obtain ⟨o, h2, h1⟩ := hone _ _ hf
    obtain ⟨res, h3, h4⟩ := anyAll_ok hone hp2 h1
    have hne : ∀ f ∈ l, (if f.born = e.born then o else res f.born) = res f.born := fun f hf => if_neg (hp1 f hf)
    refine ⟨fun b => if b = e.born then o else res b, ?_, fun f hf => ?_⟩
    · rw [List.foldl_cons]
      simp only [if_true]
      have e1 := fold_res (res := fun b => if b = e.born then o else res b) (res' := res) l (h := h.put e.val.b (some o)) hne
      rw [e1]
      exact h3
    · rcases List.mem_cons.1 hf with rfl | hf
      · simpa using h2
      · have e1 := hne f hf
        simp only [e1]
        exact h4 f hf

/-- The beginning and the end of an entry's walk. -/
noncomputable def anyT (q : AnyP) (J : List Nat) (n : Nat) (t : Fr) (e : ME) : Fr := (putF n (some q.e1)).f ((putF n (some q.c)).f ((putF n (some q.n1)).f (junkK t J) (.tup [.bool true, e.key, e.val])) (.bool true)) (.tup [e.key, e.val])
noncomputable def anyEnd (q : AnyP) (J sh : List Nat) (n : Nat) (t : Fr) (h : AH) : KC := fun y x t' h' =>
  ifB (ifB (Nat.beq y 0) true (ifB (Nat.beq y 1) (Nat.beq x q.id2) false)) (ifB (Nat.beq h'.next h.next) (ifB (sameT (junkK t J) t' J n) (ifB (sameMaps h' h t sh) (some (.val .undef h')) none) none) none) none
theorem anyEnd_ok {q : AnyP} {J sh : List Nat} {n : Nat} {t t' : Fr} {h h' : AH} {y o : Nat} {p : RV} (hf : anyEnd q J sh n t h y o t' h' = some p) : (y = 0 ∨ (y = 1 ∧ o = q.id2)) ∧ h'.next = h.next ∧ sameT (junkK t J) t' J n = true ∧ sameMaps h' h t sh = true ∧ p.heap = h' := by
  obtain ⟨h1, hf⟩ := ifB_some hf
  obtain ⟨h2, hf⟩ := ifB_some hf
  obtain ⟨h3, hf⟩ := ifB_some hf
  obtain ⟨h4, hf⟩ := ifB_some hf
  refine ⟨?_, beq_of h2, h3, h4, by cases hf; rfl⟩
  cases hy : Nat.beq y 0 with
  | true => exact .inl (beq_of hy)
  | false =>
    rw [hy, ifB_f] at h1
    obtain ⟨h5, h6⟩ := ifB2 h1
    exact .inr ⟨beq_of h5, beq_of h6⟩
structure GoodE (q : AnyP) (J sh : List Nat) (n : Nat) (body : CodeT) (call : CallT) (t : Fr) (h : AH) (e : ME) (o : OB) : Prop where
  tag : e.val.tag = 4
  one : e.val.a = 1
  walk : ∃ o1 p, h.get e.val.b = some o1 ∧ o1.kind = 0 ∧ body call (anyT q J n t e) (AH.put (mapsK h t ⟨.nil, h.next⟩ sh) e.val.b (some o1)) (anyEnd q J sh n t h) = some p ∧ p.heap.get e.val.b = some o
theorem anyOne_ok {q : AnyP} {J sh : List Nat} {n : Nat} {body : CodeT} {call : CallT} {t : Fr} {h : AH} {x : RV} (e : ME) (k : OB → R) (hf : anyOneK q J sh n body call t h e k = some x) : ∃ o, GoodE q J sh n body call t h e o ∧ k o = some x := by
  obtain ⟨h1, hf⟩ := ifB_some hf
  obtain ⟨h2, hf⟩ := ifB_some hf
  obtain ⟨o1, h3, hf⟩ := optK_some hf
  obtain ⟨h4, hf⟩ := ifB_some hf
  obtain ⟨p, h5, hf⟩ := optK_some hf
  obtain ⟨o, h6, hf⟩ := optK_some hf
  exact ⟨o, ⟨beq_of h1, beq_of h2, o1, p, h3, beq_of h4, h5, h6⟩, hf⟩

/-- Memory after some entries have been walked. -/
noncomputable def putAll (res : Nat → OB) (l : List ME) (h : AH) : AH := l.foldl (fun h e => h.put e.val.b (some (res e.born))) h
theorem putAll_next (res : Nat → OB) (l : List ME) : ∀ h : AH, (putAll res l h).next = h.next := by
  unfold putAll
  induction l with
  | nil => intro h; simp only [List.foldl_nil]
  | cons e l ih => intro h; rw [List.foldl_cons, ih]; rfl
theorem putAll_low {res : Nat → OB} (l : List ME) : ∀ (h : AH), (∀ e ∈ l, e.val.b + 1 < 16777216) → (putAll res l h).low ≤ h.low ∧ (∀ e ∈ l, (putAll res l h).low ≤ e.val.b) ∧ ∀ c, c ≤ h.low → (∀ e ∈ l, c ≤ e.val.b) → c ≤ (putAll res l h).low := by
  unfold putAll
  induction l with
  | nil => intro h _; simp only [List.foldl_nil]; exact ⟨Nat.le_refl _, (fun e he => by cases he), fun c hc _ => hc⟩
  | cons e l ih =>
    intro h hs
    simp only [List.foldl_cons]
    have h0 : (h.put e.val.b (some (res e.born))).low = lowM h.low e.val.b := AH.low_put h _ (hs e List.mem_cons_self)
    obtain ⟨h1, h2, h3⟩ := ih (h.put e.val.b (some (res e.born))) fun f hf => hs f (List.mem_cons_of_mem _ hf)
    rw [h0] at h1 h3
    have h4 := lowM_le h.low e.val.b
    refine ⟨by omega, fun f hf => ?_, fun c hc hl => h3 c (lowM_ge hc (hl e List.mem_cons_self)) fun f hf => hl f (List.mem_cons_of_mem _ hf)⟩
    rcases List.mem_cons.1 hf with rfl | hf
    · omega
    · exact h2 f hf
theorem putAll_get {res : Nat → OB} (l : List ME) : ∀ (h : AH), l.Pairwise (fun e f => f.val.b ≠ e.val.b) → (∀ e ∈ l, e.val.b + 1 < 16777216) → ∀ i, (∀ e ∈ l, e.val.b = i → (putAll res l h).get i = some (res e.born)) ∧ ((∀ e ∈ l, e.val.b ≠ i) → (putAll res l h).get i = h.get i) := by
  unfold putAll
  induction l with
  | nil => intro h _ _ i; exact ⟨(fun e he => by cases he), (fun _ => by simp only [List.foldl_nil])⟩
  | cons e l ih =>
    intro h hp hs i
    obtain ⟨hp1, hp2⟩ := List.pairwise_cons.1 hp
    obtain ⟨i1, i2⟩ := ih (h.put e.val.b (some (res e.born))) hp2 (fun f hf => hs f (List.mem_cons_of_mem _ hf)) i
    rw [List.foldl_cons]
    refine ⟨fun f hf hfi => ?_, fun hno => ?_⟩
    · rcases List.mem_cons.1 hf with rfl | hf
      · rw [i2 fun g hg e => hp1 g hg (e.trans hfi.symm), AH.get_put, if_pos ⟨hfi.symm, hs f List.mem_cons_self⟩]
      · exact i1 f hf hfi
    · rw [i2 fun g hg => hno g (List.mem_cons_of_mem _ hg), AH.get_put, if_neg fun e2 => hno e List.mem_cons_self e2.1.symm]
end Go.Proofs.YtfkdkbekmimhoaaGreatDoor
/- The machine for closed runs: a range over a map in any order: the walk. -/
namespace Go.Proofs.YtfkdkbekmimhoaaGreatDoor

section
variable {P : Program} {n m : Nat} {call : CallT} {q : AnyP} {J sh : List Nat} {body : CodeT} {t : Fr} {r s : Ren} {h : AH} {w w' w2 : World} {a : Act}

/-- A block that lived, and lives no more, is written. -/
theorem Post.far2 {g : AH} {b i : Nat} {o : OB} {p : Pl} (hp : Post P r h w s g w') (hi : h.get i = some o) (hri : r i = some p) (hb : p.blk = b) (hno : ∀ i o p, g.get i = some o → s i = some p → p.blk ≠ b) (hw : ∀ c, c ≠ b → w2.heap[c]? = w'.heap[c]?) (hz : w2.heap.size = w'.heap.size)
    (h1 : w2.os = w'.os) (h2 : w2.tape = w'.tape) (h3 : w2.output = w'.output) : Post P r h w s g w2 :=
  ⟨Post.far hp.rel hno hw hz, hp.ext, hp.new, hp.nxt, by have := hp.size; omega, fun c hc hnl => by rw [hw c fun e => hnl i o p hi hri (hb.trans e.symm)]; exact hp.frame c hc hnl, hp.own, hp.keep, h1.trans hp.os, h2.trans hp.tape, h3.trans hp.output, hp.froz⟩

theorem MEs.mem2 : ∀ {es : List ME} {Es : List MapEntry}, MEs r es Es → ∀ E ∈ Es, ∃ e ∈ es, E.born = e.born ∧ VR r e.key E.key ∧ VR r e.val E.val
  | _, _, .nil, _, h => by cases h
  | _, _, .cons hk hv hb t, E, h => by
    rcases List.mem_cons.1 h with rfl | h
    · exact ⟨_, List.mem_cons_self, hb, hk, hv⟩
    · obtain ⟨e, h1, h2⟩ := MEs.mem2 t E h
      exact ⟨e, List.mem_cons_of_mem _ h1, h2⟩
theorem MEs.borns : ∀ {es : List ME} {Es : List MapEntry}, MEs r es Es → Es.map (·.born) = es.map (·.born)
  | _, _, .nil => rfl
  | _, _, .cons _ _ hb t => by simp [hb, MEs.borns t]

/-- What stands while entries are walked. -/
structure AnyS (P : Program) (n m : Nat) (J : List Nat) (t : Fr) (r : Ren) (h : AH) (w : World) (es : List ME) (res : Nat → OB) (itid : Nat) (pit pm : Pl) (cur : Array MapEntry) (clock : Nat) (seen : Array Nat) (s : Ren) (a' : Act) (w' : World) : Prop where
  fr : FrR s (junkK t J) a'.tmps
  sz : a'.tmps.size = n
  marks : Marks m w' a'.defers
  itr : w'.heap[pit.blk]? = some (.mapIter (some pm.blk) clock seen clock)
  mp : w'.heap[pm.blk]? = some (.map cur clock)
  post : Post P r h w s (putAll res (es.filter fun e => seen.contains e.born) (h.put itid none)) w'

/-- What is done with an entry, behind 'entry' itself. -/
theorem any_body {rd : Bool} {ro : Option Nat} {o21 : Array Oper} {tail : List Oper} {e0 : Oper} {rest : Code} {fr : CodeT} {k : KC} {x : RV} {h' : AH} {t' : Fr} {Q : Exit → Act → World → Prop} (hc : CallOk P call) (hrest : CodeOk P n call rest fr rd) (hro : rd = false → ro = none) (ho : o21.toList = e0 :: tail)
    (hf : seqC (opsB P n o21 tail).f fr call t' h' k = some x) (hs : St P n m s t' h' a w') (hQ : ∀ e a2 w2, After P n m k x s h' w' e a2 w2 → Q e a2 w2) :
    wpOpsIn (fw ro) 0 P o21 (Exit.then (rest.wpIn (fw ro) 0 P Q) Q) (List.range' 1 tail.length) a w' := by
  refine ops_ok (ro := ro) hc tail 1 (fun j => ?_) t' h' s a w' hf hs fun e a2 w2 he => ?_
  · have : o21[1 + j]? = o21.toList[1 + j]? := by simp
    rw [this, ho, Nat.add_comm]
    simp
  · obtain ⟨y, o, t2, h2, s2, h1, rfl, h3, h4⟩ := he
    have h1 : ifB (Nat.beq y 0) (fr call t2 h2 k) (k y o t2 h2) = some x := h1
    cases hy : Nat.beq y 0 with
    | true =>
      rw [hy, ifB_t] at h1
      have := beq_of hy
      subst this
      exact wpIn_mono (hrest ro m t2 h2 k x s2 a2 w2 hro h1 h3) fun e a3 w3 he => hQ _ _ _ (he.trans h4)
    | false =>
      rw [hy, ifB_f] at h1
      have hq : Q (exitOf y o) a2 w2 := hQ _ _ _ ⟨y, o, t2, h2, s2, h1, rfl, h3, h4⟩
      match y, hy, hq with
      | 0, hy, _ => cases hy
      | 1, _, hq => exact hq
      | _ + 2, _, hq => exact hq

theorem elem_cons_self (a : Nat) (l : List Nat) : (a :: l).elem a = true := by simp
/-- The temporaries at an entry's beginning. -/
theorem any_frame {e1 c n1 : Nat} {a' : Act} {v1 v3 : AV} {u1 u3 : Value} (hn : n ≤ 512) (hf : FrR s (junkK t J) a'.tmps) (hz : a'.tmps.size = n) (h1 : VR s v1 u1) (h3 : VR s v3 u3) (b : Bool) :
    FrR s ((putF n (some e1)).f ((putF n (some c)).f ((putF n (some n1)).f (junkK t J) v1) (.bool b)) v3) (((a'.put (some n1) u1).put (some c) (.bool b)).put (some e1) u3).tmps := by
  have k1 := hf.put s.le_refl hn hz (some n1) h1
  have k2 := k1.put s.le_refl hn (put_size.trans hz) (some c) (VR.bool b)
  exact k2.put s.le_refl hn (put_size.trans (put_size.trans hz)) (some e1) h3
/-- Temporaries that are not looked at any more. -/
theorem FrR.junk {t' : Fr} {tmps : Array Value} (_hn : n ≤ 512) (hz : tmps.size = n) (hf : FrR s t' tmps) (hs : sameT (junkK t J) t' J n = true) (hold : ∀ i, n ≤ i → i < 512 → VR s ((junkK t J).get i) undef) : FrR s (junkK t J) tmps := by
  intro i hi
  by_cases hin : i < n
  · cases hJ : J.elem i with
    | true =>
      rw [junkK_get hi, hJ]
      exact .junk _
    | false =>
      have := sameT_ok hs i hin hJ
      rw [ev_get _ hi, ev_get _ hi] at this
      rw [this]
      exact hf i hi
  · have e : tmps.getD i undef = undef := by simp [Array.getD_eq_getD_getElem?, Array.getElem?_eq_none (by omega : tmps.size ≤ i)]
    rw [e]
    exact hold i (by omega) hi
end
end Go.Proofs.YtfkdkbekmimhoaaGreatDoor
/- The machine for closed runs: a range over a map in any order: one entry. -/
namespace Go.Proofs.YtfkdkbekmimhoaaGreatDoor

section
variable {P : Program} {n m : Nat} {call : CallT} {q : AnyP} {J sh : List Nat} {body : CodeT} {t : Fr} {r s : Ren} {h : AH} {w w2 : World} {es : List ME} {res : Nat → OB} {itid mid : Nat} {pit pm : Pl} {cur : Array MapEntry} {clock : Nat} {seen : Array Nat}

/-- What is known ahead of the loop. -/
structure AnyH (P : Program) (n : Nat) (call : CallT) (q : AnyP) (J sh : List Nat) (body : CodeT) (t : Fr) (r : Ren) (h : AH) (w : World) (es : List ME) (res : Nat → OB) (itid mid : Nat) (pit pm : Pl) : Prop where
  rel : Rel P r h w
  it : r itid = some pit
  itk : ∃ o, h.get itid = some o ∧ o.kind = 3
  mp : r mid = some pm
  mpk : ∃ o, h.get mid = some o ∧ o.kind = 1
  mno : (mapsK h t ⟨.nil, h.next⟩ sh).get mid = none
  good : ∀ e ∈ es, GoodE q J sh n body call t h e (res e.born)
  apart : es.Pairwise fun e f => f.val.b ≠ e.val.b ∧ f.born ≠ e.born
  le : n ≤ 512
  junk : ∀ i, n ≤ i → i < 512 → VR r ((junkK t J).get i) undef

theorem AnyH.own (H : AnyH P n call q J sh body t r h w es res itid mid pit pm) {e : ME} (he : e ∈ es) : ∃ o, h.get e.val.b = some o ∧ o.kind = 0 := by
  obtain ⟨o1, p, h1, h2, -⟩ := (H.good e he).walk
  exact ⟨o1, h1, h2⟩
theorem pairwise_ne {α : Type} {R : α → α → Prop} (hsym : ∀ x y, R x y → R y x) : ∀ {l : List α}, l.Pairwise R → ∀ x ∈ l, ∀ y ∈ l, x ≠ y → R x y
  | [], _, x, hx, _, _, _ => by cases hx
  | a :: l, hp, x, hx, y, hy, hne => by
    obtain ⟨h1, h2⟩ := List.pairwise_cons.1 hp
    rcases List.mem_cons.1 hx with e1 | hx1 <;> rcases List.mem_cons.1 hy with e2 | hy1
    · exact absurd (e1.trans e2.symm) hne
    · rw [e1]; exact h1 y hy1
    · rw [e2]; exact hsym _ _ (h1 x hx1)
    · exact pairwise_ne hsym h2 x hx1 y hy1 hne
/-- Memory after some entries: what it holds. -/
theorem AnyH.get (H : AnyH P n call q J sh body t r h w es res itid mid pit pm) (D : ME → Bool) (i : Nat) :
    (∀ e ∈ es, D e = true → e.val.b = i → (putAll res (es.filter D) (h.put itid none)).get i = some (res e.born)) ∧
    ((∀ e ∈ es, D e = true → e.val.b ≠ i) → i ≠ itid → (putAll res (es.filter D) (h.put itid none)).get i = h.get i) ∧
    ((∀ e ∈ es, D e = true → e.val.b ≠ i) → i = itid → (putAll res (es.filter D) (h.put itid none)).get i = none) := by
  have hsm : ∀ e ∈ es.filter D, e.val.b + 1 < 16777216 := fun e he => by
    obtain ⟨o, h1, -⟩ := H.own (List.mem_filter.1 he).1
    exact H.rel.small _ _ h1
  obtain ⟨h1, h2⟩ := putAll_get (res := res) (es.filter D) (h.put itid none) ((H.apart.imp fun hh => hh.1).filter _) hsm i
  have hno : (∀ e ∈ es, D e = true → e.val.b ≠ i) → ∀ e ∈ es.filter D, e.val.b ≠ i := fun hn e he => hn e (List.mem_filter.1 he).1 (List.mem_filter.1 he).2
  obtain ⟨o, ho, -⟩ := H.itk
  refine ⟨fun e he hD hb => h1 e (List.mem_filter.2 ⟨he, hD⟩) hb, fun hn hi => ?_, fun hn hi => ?_⟩
  · rw [h2 (hno hn), AH.get_put, if_neg fun e => hi e.1]
  · rw [h2 (hno hn), AH.get_put, if_pos ⟨hi, H.rel.small _ _ ho⟩]

/-- Behind an entry's walk. -/
theorem AnyH.after (H : AnyH P n call q J sh body t r h w es res itid mid pit pm) {e : ME} (he : e ∈ es) {D : ME → Bool} (hD : D e = false) {o1 : OB} (ho1 : h.get e.val.b = some o1) {p : RV} (hpg : p.heap.get e.val.b = some (res e.born))
    (hpost : Post P r h w s (putAll res (es.filter D) (h.put itid none)) w2) (hown : (s e.val.b).isSome = true) {ex : Exit} {a3 : Act} {w3 : World}
    (ha : After P n m (anyEnd q J sh n t h) p s (AH.put (mapsK h t ⟨.nil, h.next⟩ sh) e.val.b (some o1)) w2 ex a3 w3) {D' : ME → Bool} (hD' : ∀ f ∈ es, D' f = (D f || Nat.beq f.born e.born)) :
    (ex = .normal ∨ ex = .exit q.id2) ∧ ∃ s3, FrR s3 (junkK t J) a3.tmps ∧ a3.tmps.size = n ∧ Marks m w3 a3.defers ∧ Post P r h w s3 (putAll res (es.filter D') (h.put itid none)) w3 ∧ ∀ b, b < w2.heap.size → (∀ i o pl, (AH.put (mapsK h t ⟨.nil, h.next⟩ sh) e.val.b (some o1)).get i = some o → s i = some pl → pl.blk ≠ b) → w3.heap[b]? = w2.heap[b]? := by
  obtain ⟨y, o, t', h', s3, k1, rfl, k2, k3⟩ := ha
  obtain ⟨k4, k5, k6, k7, k8⟩ := anyEnd_ok k1
  rw [k8] at hpg
  have hapart : ∀ f ∈ es, f.born ≠ e.born → f.val.b ≠ e.val.b := fun f hf hne => (pairwise_ne (R := fun e f => f.val.b ≠ e.val.b ∧ f.born ≠ e.born) (fun x y hh => ⟨fun e => hh.1 e.symm, fun e => hh.2 e.symm⟩) H.apart e he f hf fun e2 => hne (by rw [e2])).1
  have hbne : ∀ f ∈ es, D f = true → f.val.b ≠ e.val.b := fun f hf hDf e2 => by
    by_cases hb : f.born = e.born
    · have : f = e := Classical.byContradiction fun hne => (pairwise_ne (R := fun e f => f.val.b ≠ e.val.b ∧ f.born ≠ e.born) (fun x y hh => ⟨fun e => hh.1 e.symm, fun e => hh.2 e.symm⟩) H.apart f hf e he hne).2 hb.symm
      rw [this, hD] at hDf; cases hDf
    · exact hapart f hf hb e2
  obtain ⟨oi, hoi, hoik⟩ := H.itk
  obtain ⟨oe, hoe, hoek⟩ := H.own he
  have heit : e.val.b ≠ itid := fun e2 => by
    rw [e2, hoi] at hoe; cases hoe; omega
  have hSe : (putAll res (es.filter D) (h.put itid none)).get e.val.b = some o1 := by
    rw [(H.get D e.val.b).2.1 hbne heit]; exact ho1
  have hmaps : ∀ i o, (mapsK h t ⟨.nil, h.next⟩ sh).get i = some o → (putAll res (es.filter D) (h.put itid none)).get i = some o ∧ i ≠ e.val.b := fun i o hi => by
    obtain ⟨g1, g2, -⟩ := mapsK_get _ _ _ hi
    have hne : ∀ f ∈ es, f.val.b ≠ i := fun f hf e2 => by
      obtain ⟨of, hof, hofk⟩ := H.own hf
      rw [e2, g1] at hof; cases hof; omega
    have hit : i ≠ itid := fun e2 => by
      rw [e2, hoi] at g1; cases g1; omega
    exact ⟨by rw [(H.get D i).2.1 (fun f hf _ => hne f hf) hit]; exact g1, fun e2 => hne e he e2.symm⟩
  have hput : ∀ i o, (AH.put (mapsK h t ⟨.nil, h.next⟩ sh) e.val.b (some o1)).get i = some o → (i = e.val.b ∧ o = o1) ∨ (mapsK h t ⟨.nil, h.next⟩ sh).get i = some o := fun i o hi => by
    rw [AH.get_put] at hi
    split at hi
    · rename_i e2
      cases hi
      exact .inl ⟨e2.1, rfl⟩
    · exact .inr hi
  have hSn : (putAll res (es.filter D) (h.put itid none)).next = h.next := by rw [putAll_next]; rfl
  have hS'n : (putAll res (es.filter D') (h.put itid none)).next = h.next := by rw [putAll_next]; rfl
  have hgn : (AH.put (mapsK h t ⟨.nil, h.next⟩ sh) e.val.b (some o1)).next = h.next := by rw [AH.next_put, mapsK_next]
  have hDe : D' e = true := by rw [hD' e he, Nat.beq_refl, Bool.or_true]
  have hu := Post.union (h := putAll res (es.filter D) (h.put itid none)) (h' := putAll res (es.filter D') (h.put itid none)) (own := e.val.b) hpost.rel (fun i o hi => by
      rcases hput i o hi with ⟨rfl, rfl⟩ | hi
      · exact hSe
      · exact (hmaps i o hi).1) (hgn.trans hSn.symm) k3 (k5.trans hSn.symm) (hS'n.trans hSn.symm) (by rw [hSe]; rfl) hown
    (by rw [(H.get D' e.val.b).1 e he hDe rfl, hpg]) (fun i hi => by
      by_cases hex : ∃ f ∈ es, D f = true ∧ f.val.b = i
      · obtain ⟨f, hf, hDf, hfi⟩ := hex
        rw [(H.get D i).1 f hf hDf hfi, (H.get D' i).1 f hf (by rw [hD' f hf, hDf]; rfl) hfi]
      · have hn1 : ∀ f ∈ es, D f = true → f.val.b ≠ i := fun f hf hDf hfi => hex ⟨f, hf, hDf, hfi⟩
        have hn2 : ∀ f ∈ es, D' f = true → f.val.b ≠ i := fun f hf hDf hfi => by
          rw [hD' f hf, Bool.or_eq_true] at hDf
          rcases hDf with hDf | hb
          · exact hn1 f hf hDf hfi
          · have hb := beq_of hb
            have hfe : f ≠ e := fun e2 => hi (by rw [← hfi, e2])
            exact (pairwise_ne (R := fun e f => f.val.b ≠ e.val.b ∧ f.born ≠ e.born) (fun x y hh => ⟨fun e => hh.1 e.symm, fun e => hh.2 e.symm⟩) H.apart f hf e he hfe).2 hb.symm
        by_cases hit : i = itid
        · rw [(H.get D i).2.2 hn1 hit, (H.get D' i).2.2 hn2 hit]
        · rw [(H.get D i).2.1 hn1 hit, (H.get D' i).2.1 hn2 hit])
    (fun i o pl hi hg hsi => by
      rcases hput i o hg with ⟨e2, -⟩ | hg
      · exact absurd e2 hi
      · obtain ⟨g1, g2, j, hj, h5, h6, h7⟩ := mapsK_get _ _ _ hg
        have hm := sameMaps_ok k7 j hj h5 h6
        rw [h7] at hm
        obtain ⟨a, b, m1, m2, m3, m4, m5, m6⟩ := mapEq_ok hm
        rw [g1] at m2
        cases m2
        rw [m1, Rel.same_map k2.rel hpost.rel m1 (hmaps i o hg).1 (k3.ext _ _ hsi) hsi m3 m4 m5 m6])
    (by
      have hsm : ∀ f ∈ es, f.val.b + 1 < 16777216 := fun f hf => by
        obtain ⟨o9, h9, -⟩ := H.own hf
        exact H.rel.small _ _ h9
      have hDD : ∀ f ∈ es, D f = true → D' f = true := fun f hf hd => by rw [hD' f hf, hd]; rfl
      obtain ⟨l1, l2, -⟩ := putAll_low (res := res) (es.filter D') (h.put itid none) fun f hf => hsm f (List.mem_filter.1 hf).1
      obtain ⟨-, -, l3⟩ := putAll_low (res := res) (es.filter D) (h.put itid none) fun f hf => hsm f (List.mem_filter.1 hf).1
      refine ⟨l3 _ l1 fun f hf => l2 f (List.mem_filter.2 ⟨(List.mem_filter.1 hf).1, hDD f (List.mem_filter.1 hf).1 (List.mem_filter.1 hf).2⟩), fun j hj => ?_⟩
      have hn2 : ∀ f ∈ es, D' f = true → f.val.b ≠ j := fun f hf hDf hfi => by
        have := l2 f (List.mem_filter.2 ⟨hf, hDf⟩)
        omega
      have hn1 : ∀ f ∈ es, D f = true → f.val.b ≠ j := fun f hf hDf => hn2 f hf (hDD f hf hDf)
      by_cases hit : j = itid
      · rw [(H.get D j).2.2 hn1 hit, (H.get D' j).2.2 hn2 hit]
      · rw [(H.get D j).2.1 hn1 hit, (H.get D' j).2.1 hn2 hit])
  refine ⟨?_, s3, FrR.junk H.le k2.sz k2.fr k6 (fun i h1 h2 => (H.junk i h1 h2).mono (Ren.le_trans hpost.ext k3.ext)), k2.sz, k2.marks, hpost.trans hu, fun b hb hno => k3.frame b hb hno⟩
  rcases k4 with rfl | ⟨rfl, rfl⟩
  · exact .inl rfl
  · exact .inr rfl
end
end Go.Proofs.YtfkdkbekmimhoaaGreatDoor
/- The machine for closed runs: a range over a map in any order: the loop. -/
namespace Go.Proofs.YtfkdkbekmimhoaaGreatDoor
open Go.ChangeMaps

section
variable {P : Program} {n m : Nat} {call : CallT} {q : AnyP} {J sh : List Nat} {body : CodeT} {t : Fr} {r s : Ren} {h : AH} {w w1 w' : World} {es : List ME} {res : Nat → OB} {itid mid : Nat} {pit pm : Pl} {cur : Array MapEntry} {clock : Nat} {seen : Array Nat}

/-- Nothing lives in the iterator's block, nor in the map's, as far as an entry's walk sees. -/
theorem AnyH.off (H : AnyH P n call q J sh body t r h w es res itid mid pit pm) {D : ME → Bool} (hpost : Post P r h w s (putAll res (es.filter D) (h.put itid none)) w') : ∀ i o p, (putAll res (es.filter D) (h.put itid none)).get i = some o → s i = some p → p.blk ≠ pit.blk := by
  intro i o p hi hs hb
  have hlt : i < h.next := by
    have := hpost.rel.top _ _ hi
    rwa [putAll_next] at this
  have hri : r i = some p := by
    rcases hpost.new i p hs with e | e
    · exact e
    · omega
  obtain ⟨oi, hoi, -⟩ := H.itk
  have hhi : ∃ o', h.get i = some o' := by
    by_cases hex : ∃ f ∈ es, D f = true ∧ f.val.b = i
    · obtain ⟨f, hf, -, hfi⟩ := hex
      obtain ⟨o', h1, -⟩ := H.own hf
      exact ⟨o', hfi ▸ h1⟩
    · have hn : ∀ f ∈ es, D f = true → f.val.b ≠ i := fun f hf hDf hfi => hex ⟨f, hf, hDf, hfi⟩
      by_cases hit : i = itid
      · rw [(H.get D i).2.2 hn hit] at hi; cases hi
      · rw [(H.get D i).2.1 hn hit] at hi; exact ⟨o, hi⟩
  obtain ⟨o', hh⟩ := hhi
  have := H.rel.inj i itid o' oi p pit hh hoi hri H.it hb
  subst this
  by_cases hex : ∃ f ∈ es, D f = true ∧ f.val.b = i
  · obtain ⟨f, hf, -, hfi⟩ := hex
    obtain ⟨o2, h1, h2⟩ := H.own hf
    obtain ⟨o3, h3, h4⟩ := H.itk
    rw [hfi, h3] at h1
    cases h1
    omega
  · have hn : ∀ f ∈ es, D f = true → f.val.b ≠ i := fun f hf hDf hfi => hex ⟨f, hf, hDf, hfi⟩
    rw [(H.get D i).2.2 hn rfl] at hi
    cases hi

theorem AnyH.off2 (H : AnyH P n call q J sh body t r h w es res itid mid pit pm) {g : AH} (hpost : Post P r h w s g w') {e : ME} (he : e ∈ es) {o1 : OB} : ∀ i o p, (AH.put (mapsK h t ⟨.nil, h.next⟩ sh) e.val.b (some o1)).get i = some o → s i = some p → p.blk ≠ pm.blk := by
  intro i o p hi hs hb
  have hk : ∃ o', h.get i = some o' ∧ (i = e.val.b ∨ (mapsK h t ⟨.nil, h.next⟩ sh).get i = some o) := by
    rw [AH.get_put] at hi
    split at hi
    · rename_i e2
      obtain ⟨o', h1, -⟩ := H.own he
      exact ⟨o', e2.1 ▸ h1, .inl e2.1⟩
    · exact ⟨o, (mapsK_get _ _ _ hi).1, .inr hi⟩
  obtain ⟨o', h1, h2⟩ := hk
  have hlt := H.rel.top _ _ h1
  have hri : r i = some p := by
    rcases hpost.new i p hs with e | e
    · exact e
    · omega
  obtain ⟨om, hm, hmk⟩ := H.mpk
  have := H.rel.inj i mid o' om p pm h1 hm hri H.mp hb
  subst this
  rcases h2 with h2 | h2
  · obtain ⟨o3, h3, h4⟩ := H.own he
    rw [← h2, hm] at h3
    cases h3
    omega
  · rw [H.mno] at h2
    cases h2
theorem AnyH.off3 (H : AnyH P n call q J sh body t r h w es res itid mid pit pm) {g : AH} (hpost : Post P r h w s g w') {e : ME} (he : e ∈ es) {o1 : OB} : ∀ i o p, (AH.put (mapsK h t ⟨.nil, h.next⟩ sh) e.val.b (some o1)).get i = some o → s i = some p → p.blk ≠ pit.blk := by
  intro i o p hi hs hb
  have hk : ∃ o', h.get i = some o' ∧ o'.kind ≠ 3 := by
    rw [AH.get_put] at hi
    split at hi
    · rename_i e2
      obtain ⟨o', h1, h2⟩ := H.own he
      exact ⟨o', e2.1 ▸ h1, by omega⟩
    · have := mapsK_get _ _ _ hi
      exact ⟨o, this.1, by have := this.2.1; omega⟩
  obtain ⟨o', h1, h2⟩ := hk
  have hlt := H.rel.top _ _ h1
  have hri : r i = some p := by
    rcases hpost.new i p hs with e | e
    · exact e
    · omega
  obtain ⟨oi, hi', hik⟩ := H.itk
  have := H.rel.inj i itid o' oi p pit h1 hi' hri H.it hb
  subst this
  rw [hi'] at h1
  cases h1
  exact h2 hik

theorem FrR.junk_put {a : Act} (hf : FrR s (junkK t J) a.tmps) {d : Nat} (hd : J.elem d = true) (v : Value) : FrR s (junkK t J) (a.put (some d) v).tmps := fun i hi => by
  by_cases e : i = d
  · subst e
    rw [junkK_get hi, hd]
    exact .junk _
  · rw [put_ne (fun e2 => e (Option.some.inj e2).symm)]
    exact hf i hi
theorem put_tmp_ne {a : Act} {d j : Nat} {v : Value} (h : j ≠ d) : (a.put (some d) v).eval (.tmp j) = a.eval (.tmp j) := put_ne fun e => h (Option.some.inj e).symm
theorem put_tmp_eq {a : Act} {d : Nat} {v : Value} (h : d < a.tmps.size) : (a.put (some d) v).eval (.tmp d) = v := put_eq h

/-- How far the loop has come. -/
def anyM (b : Nat) (cur : Array MapEntry) (w : World) : Nat :=
  match w.heap[b]? with
  | some (.mapIter _ _ seen _) => (leftOf cur seen).size
  | _ => 0

/-- The loop. -/
theorem AnyH.loop {rd : Bool} {ro : Option Nat} {id id2 : Nat} {rid1 rid2 : Nat} {o20 o21 : Array Oper} {x20 x21 e0 : Oper} {tail : List Oper} {rest : Code} {fr : CodeT} {k : KC} {x : RV} {a : Act} (hc : CallOk P call) (hrest : CodeOk P n call rest fr rd) (hro : rd = false → ro = none)
    (H : AnyH P n call q J sh (seqC (opsB P n o21 tail).f fr) t r h w es res itid mid pit pm)
    (h20 : o20.toList = [x20, x21]) (h21 : o21.toList = e0 :: tail) (p1 : x20.op = .next (.tmp q.it) false) (p2 : x21.op = .extract (.tmp q.n1) 0) (p3 : e0.op = .entry (.tmp q.it)) (d1 : x20.dst = some q.n1) (d2 : x21.dst = some q.c) (d3 : e0.dst = some q.e1)
    (g1 : x20.guard = none) (g2 : x21.guard = none) (g3 : e0.guard = none) (i1 : q.it ≠ q.n1) (i2 : q.it ≠ q.c) (hid2 : q.id2 = id2) (l1 : q.n1 < n) (l2 : q.c < n)
    (j0 : J.elem q.it = false) (j1 : J.elem q.n1 = true) (j2 : J.elem q.c = true) (hit : q.it < 512) (htv : t.get q.it = .ptr itid 0) (hb0 : pit.base = 0)
    (hm1 : w.heap[pm.blk]? = some (.map cur clock)) (hm2 : MEs r es cur.toList) (hm3 : ∀ e ∈ es, e.born < clock) (hm4 : w.heap[pit.blk]? = some (.mapIter (some pm.blk) clock #[] clock))
    (hs : St P n m r t h a w) (hk : k 0 0 (junkK t J) (putAll res es (h.put itid none)) = some x) :
    (Code.block id (.loop (.seq (.region rid1 o20 false) (.seq (.cond (.tmp q.c) .skip (.exit id)) (.block id2 (.seq (.region rid2 o21 false) rest)))))).wpIn (fw ro) 0 P (After P n m k x r h w) a w := by
  have hsz20 : o20.size = 2 := by have := congrArg List.length h20; simpa using this
  have hsz21 : o21.size = tail.length + 1 := by have := congrArg List.length h21; simpa using this
  have ho0 : o20[0]? = some x20 := by have : o20[0]? = o20.toList[0]? := by simp
                                      rw [this, h20]; rfl
  have ho1 : o20[1]? = some x21 := by have : o20[1]? = o20.toList[1]? := by simp
                                      rw [this, h20]; rfl
  have hoe : o21[0]? = some e0 := by have : o21[0]? = o21.toList[0]? := by simp
                                     rw [this, h21]; rfl
  have hborn : ∀ X ∈ cur.toList, X.born < clock := fun X hX => by
    obtain ⟨e, q1, q2⟩ := hm2.mem X hX
    rw [q2]; exact hm3 e q1
  have hnd : (cur.toList.map (·.born)).Nodup := by
    rw [hm2.borns]
    rw [List.nodup_iff_pairwise_ne, List.pairwise_map]
    exact H.apart.imp fun hh e => hh.2 e.symm
  let I : Act → World → Prop := fun a' w' => ∃ s seen, AnyS P n m J t r h w es res itid pit pm cur clock seen s a' w'
  refine wpIn_block (wpIn_loop I (fun _ w' => anyM pit.blk cur w') ⟨r, #[], ⟨fun i hi => ?_, hs.sz, hs.marks, hm4, hm1, ?_⟩⟩ fun a' w' hI => ?_)
  · by_cases hJ : J.elem i = true
    · rw [junkK_get hi, hJ]; exact .junk _
    · rw [junkK_get hi, if_neg hJ]; exact hs.fr i hi
  · have : es.filter (fun e => (#[] : Array Nat).contains e.born) = [] := by simp
    rw [this]
    exact Post.drop hs.rel itid H.it
  obtain ⟨s, seen, S⟩ := hI
  have hev : a'.eval (.tmp q.it) = .pointer (some ⟨pit.blk, 0, none⟩) := by
    have h1 := S.fr q.it hit
    rw [junkK_get hit, j0, if_neg (by simp), htv] at h1
    obtain ⟨p, h2, h3, -⟩ := h1.inv3 rfl rfl
    have h2' : s itid = some p := h2
    rw [S.post.ext _ _ H.it] at h2'
    cases h2'
    have h3' : a'.tmps.getD q.it undef = .pointer (some ⟨pit.blk, pit.base + 0, none⟩) := h3
    rw [hb0] at h3'
    exact h3'
  have hM : anyM pit.blk cur w' = (leftOf cur seen).size := by simp [anyM, S.itr]
  have hlen : w'.heap.size > pit.blk := (Array.getElem?_eq_some_iff.1 S.itr).1
  refine wpIn_seq (wpIn_region ?_)
  rw [hsz20, show List.range 2 = [0, 1] from rfl, wpOpsIn_cons]
  rcases run_next_at (P := P) w' x20.type pit.blk pm.blk clock clock seen cur clock S.itr S.mp hborn (Nat.le_refl _) with ⟨hn0, hrun⟩ | ⟨E, hE, w1, hw1, hrun⟩
  · refine wp_value (v' := .tuple #[.bool false]) (w' := w') ho0 (wanted_none g1 _) (fun c e => by rw [p1] at e; cases e) ?_ ?_
    · simp only [execOp, p1, hev, hrun, Sem.run_bind, Result.andThen_ok]; rfl
    rw [d1, wpOpsIn_cons]
    have hv1 : (a'.put (some q.n1) (.tuple #[.bool false])).eval (.tmp q.n1) = .tuple #[.bool false] := put_tmp_eq (by rw [S.sz]; exact l1)
    refine wp_value (v' := .bool false) (w' := w') ho1 (wanted_none g2 _) (fun c e => by rw [p2] at e; cases e) ?_ ?_
    · simp only [execOp, p2, hv1]; rfl
    rw [d2]
    have hv2 : ((a'.put (some q.n1) (.tuple #[.bool false])).put (some q.c) (.bool false)).eval (.tmp q.c) = .bool false := put_tmp_eq (by rw [put_size, S.sz]; exact l2)
    refine wpIn_seq (wpIn_cond_false hv2 (wpIn_exit ?_))
    show Exit.inBlock id (After P n m k x r h w) (.exit id) _ _
    simp only [Exit.inBlock, if_true]
    have hall : ∀ e ∈ es, seen.contains e.born = true := fun e he => by
      have h1 : e.born ∈ cur.toList.map (·.born) := by rw [hm2.borns]; exact List.mem_map.2 ⟨e, he, rfl⟩
      obtain ⟨X, h2, h3⟩ := List.mem_map.1 h1
      rw [← h3]
      exact all_seen cur seen hn0 X h2
    have hp := S.post
    rw [List.filter_eq_self.2 hall] at hp
    exact ⟨0, 0, junkK t J, _, s, hk, rfl, ⟨(S.fr.junk_put j1 _).junk_put j2 _, put_size.trans (put_size.trans S.sz), hs.le, hp.rel, by rw [put_defers, put_defers]; exact S.marks, Nat.le_trans hs.low hp.size⟩, hp⟩
  · obtain ⟨hEc, hEs⟩ := mem_left hE
    obtain ⟨e, he, eb, ek, ev⟩ := hm2.mem2 E hEc
    refine wp_value (v' := .tuple #[.bool true, E.key, E.val]) (w' := setBlock w1 pit.blk (.mapIter (some pm.blk) clock (seen.push E.born) clock)) ho0 (wanted_none g1 _) (fun c e => by rw [p1] at e; cases e) ?_ ?_
    · simp only [execOp, p1, hev, hrun, Sem.run_bind, Result.andThen_ok]; rfl
    rw [d1, wpOpsIn_cons]
    generalize hw2 : setBlock w1 pit.blk (.mapIter (some pm.blk) clock (seen.push E.born) clock) = w2
    have hw1h : w1.heap = w'.heap ∧ w1.os = w'.os ∧ w1.tape = w'.tape ∧ w1.output = w'.output := by rcases hw1 with rfl | rfl <;> exact ⟨rfl, rfl, rfl, rfl⟩
    have hfar : ∀ c, c ≠ pit.blk → w2.heap[c]? = w'.heap[c]? := fun c hc => by
      rw [← hw2, ← hw1h.1]; simp [setBlock, Array.getElem?_setIfInBounds_ne (Ne.symm hc)]
    have hz2 : w2.heap.size = w'.heap.size := by rw [← hw2, ← hw1h.1]; simp [setBlock]
    have hit2 : w2.heap[pit.blk]? = some (.mapIter (some pm.blk) clock (seen.push E.born) clock) := by
      rw [← hw2]; simp [setBlock, hw1h.1, hlen]
    have hpmne : pm.blk ≠ pit.blk := fun e2 => by rw [e2, hm4] at hm1; cases hm1
    have hmp2 : w2.heap[pm.blk]? = some (.map cur clock) := (hfar _ hpmne).trans S.mp
    obtain ⟨oi, hoi, hoik⟩ := H.itk
    have hpost2 : Post P r h w s (putAll res (es.filter fun e => seen.contains e.born) (h.put itid none)) w2 :=
      Post.far2 S.post hoi H.it rfl (H.off S.post) hfar hz2 (by rw [← hw2]; exact hw1h.2.1) (by rw [← hw2]; exact hw1h.2.2.1) (by rw [← hw2]; exact hw1h.2.2.2)
    have hmk2 : Marks m w2 a'.defers := S.marks.keep fun b d hb => hfar b fun e2 => by rw [e2, S.itr] at hb; cases hb
    have hv1 : (a'.put (some q.n1) (.tuple #[.bool true, E.key, E.val])).eval (.tmp q.n1) = .tuple #[.bool true, E.key, E.val] := put_tmp_eq (by rw [S.sz]; exact l1)
    refine wp_value (v' := .bool true) (w' := w2) ho1 (wanted_none g2 _) (fun c e => by rw [p2] at e; cases e) ?_ ?_
    · simp only [execOp, p2, hv1]; rfl
    rw [d2]
    have hv2 : ((a'.put (some q.n1) (.tuple #[.bool true, E.key, E.val])).put (some q.c) (.bool true)).eval (.tmp q.c) = .bool true := put_tmp_eq (by rw [put_size, S.sz]; exact l2)
    have hv3 : ((a'.put (some q.n1) (.tuple #[.bool true, E.key, E.val])).put (some q.c) (.bool true)).eval (.tmp q.it) = .pointer (some ⟨pit.blk, 0, none⟩) := by
      rw [put_tmp_ne i2, put_tmp_ne i1, hev]
    refine wpIn_seq (wpIn_cond_true hv2 (wpIn_skip ?_))
    refine wpIn_block (wpIn_seq (wpIn_region ?_))
    rw [hsz21, List.range_eq_range', List.range'_succ, wpOpsIn_cons]
    have hent := run_entry_at (P := P) w2 pit.blk pm.blk clock seen cur clock E hit2 hmp2 hEc hnd
    refine wp_value (v' := .tuple #[E.key, E.val]) (w' := w2) hoe (wanted_none g3 _) (fun c e => by rw [p3] at e; cases e) ?_ ?_
    · simp only [execOp, p3, hv3, hent, Sem.run_bind, Result.andThen_ok]; rfl
    rw [d3]
    obtain ⟨o1, p, ho1', ho1k, hwalk, hres⟩ := (H.good e he).walk
    have hse : ∃ pl, s e.val.b = some pl := by
      obtain ⟨pl, _, _, q1, -⟩ := ev.inv4 (H.good e he).tag (H.good e he).one
      exact ⟨pl, hpost2.ext _ _ q1⟩
    obtain ⟨ple, hple⟩ := hse
    have hD : seen.contains e.born = false := by rw [← eb]; exact hEs
    have hsub : ∀ i o, (AH.put (mapsK h t ⟨.nil, h.next⟩ sh) e.val.b (some o1)).get i = some o → (putAll res (es.filter fun e => seen.contains e.born) (h.put itid none)).get i = some o := fun i o hi => by
      have hbne : ∀ f ∈ es, seen.contains f.born = true → f.val.b ≠ e.val.b := fun f hf hDf e2 => by
        have : f = e := Classical.byContradiction fun hne => (pairwise_ne (R := fun e f => f.val.b ≠ e.val.b ∧ f.born ≠ e.born) (fun x y hh => ⟨fun e => hh.1 e.symm, fun e => hh.2 e.symm⟩) H.apart f hf e he hne).1 e2.symm
        rw [this, hD] at hDf; cases hDf
      rw [AH.get_put] at hi
      split at hi
      · rename_i e2
        cases hi
        have : e.val.b ≠ itid := fun e3 => by rw [e3, hoi] at ho1'; cases ho1'; omega
        rw [e2.1, (H.get (fun e => seen.contains e.born) e.val.b).2.1 hbne this]
        exact ho1'
      · obtain ⟨q1, q2, -⟩ := mapsK_get _ _ _ hi
        have hne : ∀ f ∈ es, f.val.b ≠ i := fun f hf e2 => by
          obtain ⟨of, hof, hofk⟩ := H.own hf
          rw [e2, q1] at hof; cases hof; omega
        have hit : i ≠ itid := fun e2 => by
          rw [e2, hoi] at q1; cases q1; omega
        rw [(H.get (fun e => seen.contains e.born) i).2.1 (fun f hf _ => hne f hf) hit]
        exact q1
    have hrel : Rel P s (AH.put (mapsK h t ⟨.nil, h.next⟩ sh) e.val.b (some o1)) w2 := hpost2.rel.sub hsub (by rw [putAll_next, AH.next_put, AH.next_put, mapsK_next]; exact Nat.le_refl _)
    have hle : r.le s := hpost2.ext
    have hfr := any_frame (n := n) (e1 := q.e1) (c := q.c) (n1 := q.n1) hs.le S.fr S.sz (VR.tup #[.bool true, E.key, E.val] (.cons (.bool true) (.cons (ek.mono hle) (.cons (ev.mono hle) .nil)))) (VR.tup #[E.key, E.val] (.cons (ek.mono hle) (.cons (ev.mono hle) .nil))) true
    have hst : St P n m s (anyT q J n t e) (AH.put (mapsK h t ⟨.nil, h.next⟩ sh) e.val.b (some o1)) (((a'.put (some q.n1) (.tuple #[.bool true, E.key, E.val])).put (some q.c) (.bool true)).put (some q.e1) (.tuple #[E.key, E.val])) w2 :=
      ⟨hfr, put_size.trans (put_size.trans (put_size.trans S.sz)), hs.le, hrel, by rw [put_defers, put_defers, put_defers]; exact hmk2, Nat.le_trans hs.low hpost2.size⟩
    refine any_body hc hrest hro h21 hwalk hst fun ex a3 w3 ha => ?_
    have hD' : ∀ f ∈ es, (seen.push E.born).contains f.born = (seen.contains f.born || Nat.beq f.born e.born) := fun f hf => by
      rw [eb]
      simp only [Array.contains_push]
      congr 1
      cases hb : Nat.beq f.born e.born with
      | true => simpa using beq_of hb
      | false => simpa using fun e2 => by rw [e2, Nat.beq_refl] at hb; cases hb
    obtain ⟨hex, s3, k1, k2, k3, k4, k5⟩ := H.after (D := fun e => seen.contains e.born) (D' := fun e => (seen.push E.born).contains e.born) he hD ho1' hres hpost2 (by rw [hple]; rfl) ha hD'
    have hb1 : w3.heap[pit.blk]? = w2.heap[pit.blk]? := k5 _ (by omega) (H.off3 hpost2 he)
    have hb2 : w3.heap[pm.blk]? = w2.heap[pm.blk]? := k5 _ (Array.getElem?_eq_some_iff.1 hmp2).1 (H.off2 hpost2 he)
    have hI' : I a3 w3 := ⟨s3, seen.push E.born, k1, k2, k3, hb1.trans hit2, hb2.trans hmp2, k4⟩
    have hM' : anyM pit.blk cur w3 = (leftOf cur (seen.push E.born)).size := by simp [anyM, hb1.trans hit2]
    have hfin : I a3 w3 ∧ anyM pit.blk cur w3 < anyM pit.blk cur w' := ⟨hI', by rw [hM', hM]; exact left_shrinks cur seen E hE⟩
    rcases hex with rfl | rfl
    · exact hfin
    · show Exit.inBlock id2 _ (.exit q.id2) _ _
      simp only [Exit.inBlock, hid2, if_true]
      exact hfin
end
end Go.Proofs.YtfkdkbekmimhoaaGreatDoor
/- The machine for closed runs: a range over a map in any order, where walks may lay objects: what a walk leaves that writes nothing. -/
namespace Go.Proofs.YtfkdkbekmimhoaaGreatDoor
open Go.ChangeMaps

section
variable {r s : Ren}
mutual
/-- A value whose objects are known already. -/
theorem VR.back (h : r.le s) : ∀ {a : AV} {v : Value}, VR s a v → (∃ u, VR r a u) → VR r a v
  | _, _, .int k i, _ => .int k i
  | _, _, .bool b, _ => .bool b
  | _, _, .str b, _ => .str b
  | _, _, .pnil, _ => .pnil
  | _, _, .ptr o hp, ⟨_, hu⟩ => by
    obtain ⟨p', h1, -⟩ := hu.inv3 rfl rfl
    have h2 := hp.symm.trans (h _ _ h1)
    cases h2
    exact .ptr o h1
  | _, _, .snil, _ => .snil
  | _, _, .slc hp hn hc ho hs hb hm, ⟨_, hu⟩ => by
    obtain ⟨p', o', c', h1, -⟩ := hu.inv4 rfl rfl
    have h2 := hp.symm.trans (h _ _ h1)
    cases h2
    exact .slc h1 hn hc ho hs hb hm
  | _, _, .mnil, _ => .mnil
  | _, _, .map hp, ⟨_, hu⟩ => by
    obtain ⟨p', h1, -⟩ := hu.inv5 rfl rfl
    have h2 := hp.symm.trans (h _ _ h1)
    cases h2
    exact .map h1
  | _, _, .fnil, _ => .fnil
  | _, _, .fn f a b hl, ⟨_, hu⟩ => by
    obtain ⟨x, y, -, -, h1⟩ := hu.inv6 rfl rfl
    exact .fn f a b (VRs.back h hl ⟨_, h1⟩)
  | _, _, .yield hp, ⟨_, hu⟩ => by
    obtain ⟨p', h1, -⟩ := hu.inv6y rfl rfl
    have h2 := hp.symm.trans (h _ _ h1)
    cases h2
    exact .yield h1
  | _, _, .agg cs hl, ⟨_, hu⟩ => by
    obtain ⟨cs', -, h1⟩ := hu.inv7 rfl
    exact .agg cs (VRs.back h hl ⟨_, h1⟩)
  | _, _, .tup cs hl, ⟨_, hu⟩ => by
    obtain ⟨cs', -, h1⟩ := hu.inv8 rfl
    exact .tup cs (VRs.back h hl ⟨_, h1⟩)
  | _, _, .junk v, _ => .junk v
  | _, _, .inil, _ => .inil
theorem VRs.back (h : r.le s) : ∀ {l : List AV} {vs : List Value}, VRs s l vs → (∃ us, VRs r l us) → VRs r l vs
  | _, _, .nil, _ => .nil
  | _, _, .cons h1 h2, ⟨_, hu⟩ => by
    cases hu with
    | cons h3 h4 => exact .cons (VR.back h h1 ⟨_, h3⟩) (VRs.back h h2 ⟨_, h4⟩)
end
theorem FrR.back (h : r.le s) {t : Fr} {a b : Array Value} (h1 : FrR r t a) (h2 : FrR s t b) : FrR r t b := fun i hi => VR.back h (h2 i hi) ⟨_, h1 i hi⟩
theorem MEs.back (h : r.le s) : ∀ {l : List ME} {L M : List MapEntry}, MEs r l L → MEs s l M → MEs r l M
  | _, _, _, .nil, .nil => .nil
  | _, _, _, .cons a b _ d, .cons a' b' c' d' => .cons (VR.back h a' ⟨_, a⟩) (VR.back h b' ⟨_, b⟩) c' (MEs.back h d d')
theorem MEs.keyed : ∀ {l : List ME} {L : List MapEntry}, MEs r l L → ∀ e ∈ l, (∃ u, VR r e.key u) ∧ ∃ u, VR r e.val u
  | _, _, .nil, e, h => by cases h
  | _, _, .cons a b _ d, e, h => by
    rcases List.mem_cons.1 h with rfl | h
    · exact ⟨⟨_, a⟩, ⟨_, b⟩⟩
    · exact MEs.keyed d e h
theorem ObR.back {P : Program} (h : r.le s) {p : Pl} {w w' : World} {o : OB} (h1 : ObR P r p w o) (h2 : ObR P s p w' o) : ObR P r p w' o := by
  cases h1 with
  | arr a1 a2 a3 a4 a5 a6 =>
    cases h2 with
    | arr b1 b2 b3 b4 b5 b6 =>
      refine .arr b1 b2 b3 b4 b5 fun j a ha => ?_
      obtain ⟨v, q1, q2⟩ := b6 j a ha
      obtain ⟨u, -, q3⟩ := a6 j a ha
      exact ⟨v, q1, VR.back h q2 ⟨u, q3⟩⟩
  | map a1 a2 a3 =>
    cases h2 with
    | map b1 b2 b3 => exact .map b1 (a2.back h b2) b3
  | lit a1 a2 a3 a4 a5 =>
    cases h2 with
    | lit b1 b2 b3 b4 b5 =>
      refine .lit b1 (fun E hE => ?_) (fun e he => ?_) b4 b5
      · obtain ⟨e, q1, q2, q3⟩ := b2 E hE
        obtain ⟨E', -, q4, q5⟩ := a3 e q1
        exact ⟨e, q1, VR.back h q2 ⟨_, q4⟩, VR.back h q3 ⟨_, q5⟩⟩
      · obtain ⟨E, q1, q2, q3⟩ := b3 e he
        obtain ⟨E', -, q4, q5⟩ := a3 e he
        exact ⟨E, q1, VR.back h q2 ⟨_, q4⟩, VR.back h q3 ⟨_, q5⟩⟩
  | iter a1 a2 a3 =>
    cases h2 with
    | iter b1 b2 b3 =>
      have := h _ _ a2
      rw [b2] at this
      cases this
      exact .iter b1 a2 b3
  | loop a1 a2 a3 a4 a5 a6 a7 a8 =>
    cases h2 with
    | loop b1 b2 b3 b4 b5 b6 b7 b8 => exact .loop b1 (a2.back h b2) b3 b4 b5 b6 b7 b8
end

/-- A walk that writes nothing that was there: what it laid may be forgotten. -/
theorem Post.still {P : Program} {s s2 : Ren} {g G h2 : AH} {w w' : World} (hr : Rel P s g w) (hg : ∀ i, G.get i = g.get i) (hp : Post P s G w s2 h2 w') (hsame : ∀ i, i < g.next → h2.get i = g.get i) : Post P s g w s g w' := by
  refine ⟨⟨hr.small, fun i o p hi hs => ?_, hr.inj, fun i p hi => ⟨(hr.dom i p hi).1, Nat.lt_of_lt_of_le (hr.dom i p hi).2 hp.size⟩, hr.top⟩, s.le_refl, fun _ _ h => .inl h, Nat.le_refl _, hp.size, fun b hb hno => hp.frame b hb fun i o p hi hs => hno i o p ((hg i).symm.trans hi) hs, fun i o p h1 h2 => .inr ⟨i, o, p, h1, h2, rfl⟩, fun _ _ _ => rfl, hp.os, hp.tape, hp.output, Froz.refl _⟩
  have h1 := hr.live i o p hi hs
  have h3 := hp.rel.live i o p ((hsame i (hr.top i o hi)).trans hi) (hp.ext i p hs)
  exact ObR.back hp.ext h1 h3

theorem allD_ok {p : ME → Bool} : ∀ {l : List ME}, allD p l = true → ∀ e ∈ l, p e = true
  | [], _, e, he => by cases he
  | a :: l, h, e, he => by
    have h : ifB (p a) (allD p l) false = true := h
    obtain ⟨h1, h2⟩ := ifB2 h
    rcases List.mem_cons.1 he with rfl | he
    · exact h1
    · exact allD_ok h2 e he
theorem partD_ok {p : ME → Bool} {k : List ME → List ME → R} : ∀ (l N0 Z0 : List ME), ∃ N Z, partD p l N0 Z0 k = k N Z ∧ (∀ e, e ∈ N ↔ e ∈ N0 ∨ (e ∈ l ∧ p e = false)) ∧ ∀ e, e ∈ Z ↔ e ∈ Z0 ∨ (e ∈ l ∧ p e = true)
  | [], N0, Z0 => ⟨N0, Z0, rfl, fun e => by simp, fun e => by simp⟩
  | a :: l, N0, Z0 => by
    have h0 : partD p (a :: l) N0 Z0 k = ifB (p a) (partD p l N0 (a :: Z0) k) (partD p l (a :: N0) Z0 k) := rfl
    cases ha : p a with
    | true =>
      obtain ⟨N, Z, h1, h2, h3⟩ := partD_ok (p := p) (k := k) l N0 (a :: Z0)
      refine ⟨N, Z, by rw [h0, ha, ifB_t, h1], fun e => ?_, fun e => ?_⟩
      · rw [h2 e]
        constructor
        · rintro (h | h)
          · exact .inl h
          · exact .inr ⟨List.mem_cons_of_mem _ h.1, h.2⟩
        · rintro (h | ⟨h, h4⟩)
          · exact .inl h
          · rcases List.mem_cons.1 h with rfl | h
            · rw [ha] at h4; cases h4
            · exact .inr ⟨h, h4⟩
      · rw [h3 e]
        constructor
        · rintro (h | h)
          · rcases List.mem_cons.1 h with rfl | h
            · exact .inr ⟨List.mem_cons_self, ha⟩
            · exact .inl h
          · exact .inr ⟨List.mem_cons_of_mem _ h.1, h.2⟩
        · rintro (h | ⟨h, h4⟩)
          · exact .inl (List.mem_cons_of_mem _ h)
          · rcases List.mem_cons.1 h with rfl | h
            · exact .inl List.mem_cons_self
            · exact .inr ⟨h, h4⟩
    | false =>
      obtain ⟨N, Z, h1, h2, h3⟩ := partD_ok (p := p) (k := k) l (a :: N0) Z0
      refine ⟨N, Z, by rw [h0, ha, ifB_f, h1], fun e => ?_, fun e => ?_⟩
      · rw [h2 e]
        constructor
        · rintro (h | h)
          · rcases List.mem_cons.1 h with rfl | h
            · exact .inr ⟨List.mem_cons_self, ha⟩
            · exact .inl h
          · exact .inr ⟨List.mem_cons_of_mem _ h.1, h.2⟩
        · rintro (h | ⟨h, h4⟩)
          · exact .inl (List.mem_cons_of_mem _ h)
          · rcases List.mem_cons.1 h with rfl | h
            · exact .inl List.mem_cons_self
            · exact .inr ⟨h, h4⟩
      · rw [h3 e]
        constructor
        · rintro (h | h)
          · exact .inl h
          · exact .inr ⟨List.mem_cons_of_mem _ h.1, h.2⟩
        · rintro (h | ⟨h, h4⟩)
          · exact .inl h
          · rcases List.mem_cons.1 h with rfl | h
            · rw [ha] at h4; cases h4
            · exact .inr ⟨h, h4⟩
theorem yesThen_some {a b : R} {x : RV} (h : yesThen a b = some x) : a = some .yes ∧ b = some x := by
  obtain ⟨p, h1, h2⟩ := optK_some h
  cases p with
  | yes => exact ⟨h1, h2⟩
  | val v g => cases h2
theorem eachD_some {F : ME → R} {x : RV} : ∀ {l : List ME}, eachD F l = some x → x = .yes ∧ ∀ e ∈ l, F e = some .yes
  | [], h => ⟨by cases h; rfl, fun e he => by cases he⟩
  | a :: l, h => by
    obtain ⟨h1, h2⟩ := yesThen_some (a := F a) (b := eachD F l) h
    obtain ⟨h3, h4⟩ := eachD_some h2
    refine ⟨h3, fun e he => ?_⟩
    rcases List.mem_cons.1 he with rfl | he
    · exact h1
    · exact h4 e he
theorem lessD_mem {b : Nat} : ∀ {l : List ME} {e : ME}, e ∈ lessD b l ↔ e ∈ l ∧ e.born ≠ b
  | [], e => by
    show e ∈ [] ↔ _
    simp
  | a :: l, e => by
    have h0 : lessD b (a :: l) = ifB (Nat.beq a.born b) (lessD b l) (a :: lessD b l) := rfl
    rw [h0]
    cases hb : Nat.beq a.born b with
    | true =>
      rw [ifB_t, lessD_mem]
      constructor
      · rintro ⟨h1, h2⟩
        exact ⟨List.mem_cons_of_mem _ h1, h2⟩
      · rintro ⟨h1, h2⟩
        rcases List.mem_cons.1 h1 with rfl | h1
        · exact absurd (beq_of hb) h2
        · exact ⟨h1, h2⟩
    | false =>
      rw [ifB_f, List.mem_cons, lessD_mem]
      constructor
      · rintro (rfl | ⟨h1, h2⟩)
        · exact ⟨List.mem_cons_self, fun e => by rw [e, Nat.beq_refl] at hb; cases hb⟩
        · exact ⟨List.mem_cons_of_mem _ h1, h2⟩
      · rintro ⟨h1, h2⟩
        rcases List.mem_cons.1 h1 with rfl | h1
        · exact .inl rfl
        · exact .inr ⟨h1, h2⟩
theorem goD_some {run : ME → AH → (AH → R) → R} {f : Nat} {Z L : List ME} {g : AH} {k : AH → R} {x : RV} (h : goD run f Z L g k = some x) :
    ∃ f' N Z', (∀ e, e ∈ N ↔ e ∈ L ∧ stillD run g e = false) ∧ (∀ e, e ∈ Z' ↔ e ∈ Z ∨ (e ∈ L ∧ stillD run g e = true)) ∧ (∀ e ∈ Z, stillD run g e = true) ∧
      ((N = [] ∧ k g = some x) ∨ (N ≠ [] ∧ x = .yes ∧ ∀ e ∈ N, run e g (fun h' => goD run f' Z' (lessD e.born N) h' k) = some .yes)) := by
  cases f with
  | zero => cases h
  | succ f =>
    have h : ifB (allD (stillD run g) Z) (partD (stillD run g) L [] Z fun N Z' => List.casesOn N (k g) fun _ _ => eachD (fun e => run e g fun h' => goD run f Z' (lessD e.born N) h' k) N) none = some x := h
    obtain ⟨h1, h2⟩ := ifB_some h
    obtain ⟨N, Z', h3, h4, h5⟩ := partD_ok (p := stillD run g) (k := fun N Z' => List.casesOn N (k g) fun _ _ => eachD (fun e => run e g fun h' => goD run f Z' (lessD e.born N) h' k) N) L [] Z
    rw [h3] at h2
    refine ⟨f, N, Z', fun e => by rw [h4 e]; simp, h5, allD_ok h1, ?_⟩
    cases N with
    | nil => exact .inl ⟨rfl, h2⟩
    | cons a N => exact .inr ⟨by simp, eachD_some h2⟩
theorem stillD_some {run : ME → AH → (AH → R) → R} {g : AH} {e : ME} (h : stillD run g e = true) : ∃ y, run e g.mark (fun h' => ifB (Nat.ble g.next h'.low) (some (.val .undef h')) none) = some y := by
  unfold stillD at h
  cases hy : run e g.mark (fun h' => ifB (Nat.ble g.next h'.low) (some (.val .undef h')) none) with
  | none => rw [hy] at h; cases h
  | some y => exact ⟨y, rfl⟩
end Go.Proofs.YtfkdkbekmimhoaaGreatDoor
/- The machine for closed runs: a range over a map in any order, where walks may lay objects: the loop. -/
namespace Go.Proofs.YtfkdkbekmimhoaaGreatDoor
open Go.ChangeMaps

/-- The end of an entry's walk. -/
noncomputable def endD (q : AnyP) (J : List Nat) (n : Nat) (t : Fr) (kk : AH → R) : KC := fun y x t' h' =>
  ifB (ifB (Nat.beq y 0) true (ifB (Nat.beq y 1) (Nat.beq x q.id2) false)) (ifB (sameT (junkK t J) t' J n) (kk h') none) none
theorem runD_eq (q : AnyP) (J : List Nat) (n : Nat) (body : CodeT) (call : CallT) (t : Fr) (e : ME) (h : AH) (kk : AH → R) : runD q J n body call t e h kk = body call (anyT q J n t e) h (endD q J n t kk) := rfl
theorem endD_ok {q : AnyP} {J : List Nat} {n : Nat} {t t' : Fr} {kk : AH → R} {h' : AH} {y o : Nat} {x : RV} (hf : endD q J n t kk y o t' h' = some x) : (y = 0 ∨ (y = 1 ∧ o = q.id2)) ∧ sameT (junkK t J) t' J n = true ∧ kk h' = some x := by
  obtain ⟨h1, hf⟩ := ifB_some hf
  obtain ⟨h2, hf⟩ := ifB_some hf
  refine ⟨?_, h2, hf⟩
  cases hy : Nat.beq y 0 with
  | true => exact .inl (beq_of hy)
  | false =>
    rw [hy, ifB_f] at h1
    obtain ⟨h5, h6⟩ := ifB2 h1
    exact .inr ⟨beq_of h5, beq_of h6⟩

section
variable {P : Program} {n m : Nat} {call : CallT} {q : AnyP} {J : List Nat} {body : CodeT} {t : Fr} {r s : Ren} {h : AH} {w w1 w' : World} {es : List ME} {itid mid : Nat} {pit pm : Pl} {cur : Array MapEntry} {clock : Nat} {seen : Array Nat}

/-- What is known ahead of the loop. -/
structure AnyG (P : Program) (n : Nat) (J : List Nat) (t : Fr) (r : Ren) (h : AH) (w : World) (es : List ME) (itid mid : Nat) (pit pm : Pl) : Prop where
  rel : Rel P r h w
  it : r itid = some pit
  itk : ∃ o, h.get itid = some o ∧ o.kind = 3
  mp : r mid = some pm
  mpk : ∃ o, h.get mid = some o ∧ o.kind = 1
  born : es.Pairwise fun e f => f.born ≠ e.born
  le : n ≤ 512
  junk : ∀ i, n ≤ i → i < 512 → VR r ((junkK t J).get i) undef

/-- What stands while entries are walked. -/
structure AnyD (P : Program) (n m : Nat) (J : List Nat) (t : Fr) (r : Ren) (h : AH) (w : World) (es : List ME) (pit pm : Pl) (cur : Array MapEntry) (clock : Nat) (run : ME → AH → (AH → R) → R) (kk : AH → R) (x : RV) (seen : Array Nat) (s : Ren) (g : AH) (N Z : List ME) (f : Nat) (a' : Act) (w' : World) : Prop where
  fr : FrR s (junkK t J) a'.tmps
  sz : a'.tmps.size = n
  marks : Marks m w' a'.defers
  itr : w'.heap[pit.blk]? = some (.mapIter (some pm.blk) clock seen clock)
  mp : w'.heap[pm.blk]? = some (.map cur clock)
  post : Post P r h w s g w'
  off : ∀ i o p, g.get i = some o → s i = some p → p.blk ≠ pit.blk ∧ p.blk ≠ pm.blk
  go : (N = [] ∧ kk g = some x) ∨ (N ≠ [] ∧ x = .yes ∧ ∀ e ∈ N, run e g (fun h' => goD run f Z (lessD e.born N) h' kk) = some .yes)
  zs : ∀ z ∈ Z, stillD run g z = true
  cov : ∀ e ∈ es, seen.contains e.born = false → e ∈ N ∨ e ∈ Z
  uns : ∀ e ∈ N, e ∈ es ∧ seen.contains e.born = false

theorem AnyG.off0 (H : AnyG P n J t r h w es itid mid pit pm) : ∀ i o p, ((h.put itid none).put mid none).get i = some o → r i = some p → p.blk ≠ pit.blk ∧ p.blk ≠ pm.blk := by
  intro i o p hi hr
  obtain ⟨oi, hoi, -⟩ := H.itk
  obtain ⟨om, hom, -⟩ := H.mpk
  have h1 := get_drop hi
  have h2 := get_drop h1
  have hsm := H.rel.small _ _ h2
  refine ⟨fun hb => ?_, fun hb => ?_⟩
  · have e := H.rel.inj i itid o oi p pit h2 hoi hr H.it hb
    rw [AH.get_put, if_pos ⟨e, e ▸ hsm⟩] at h1
    cases h1
  · have e := H.rel.inj i mid o om p pm h2 hom hr H.mp hb
    rw [AH.get_put, if_pos ⟨e, e ▸ hsm⟩] at hi
    cases hi

theorem Array.contains_push' (seen : Array Nat) {b c : Nat} : (seen.push b).contains c = (seen.contains c || Nat.beq c b) := by
  simp only [Array.contains_push]
  congr 1
  cases hb : Nat.beq c b with
  | true => simpa using beq_of hb
  | false => simpa using fun e2 => by rw [e2, Nat.beq_refl] at hb; cases hb

/-- The loop. -/
theorem AnyG.loop {rd : Bool} {ro : Option Nat} {id id2 : Nat} {rid1 rid2 : Nat} {o20 o21 : Array Oper} {x20 x21 e0 : Oper} {tail : List Oper} {rest : Code} {fr : CodeT} {k : KC} {x : RV} {a : Act} (hc : CallOk P call) (hrest : CodeOk P n call rest fr rd) (hro : rd = false → ro = none)
    (H : AnyG P n J t r h w es itid mid pit pm)
    (h20 : o20.toList = [x20, x21]) (h21 : o21.toList = e0 :: tail) (p1 : x20.op = .next (.tmp q.it) false) (p2 : x21.op = .extract (.tmp q.n1) 0) (p3 : e0.op = .entry (.tmp q.it)) (d1 : x20.dst = some q.n1) (d2 : x21.dst = some q.c) (d3 : e0.dst = some q.e1)
    (g1 : x20.guard = none) (g2 : x21.guard = none) (g3 : e0.guard = none) (i1 : q.it ≠ q.n1) (i2 : q.it ≠ q.c) (hid2 : q.id2 = id2) (l1 : q.n1 < n) (l2 : q.c < n)
    (j0 : J.elem q.it = false) (j1 : J.elem q.n1 = true) (j2 : J.elem q.c = true) (hit : q.it < 512) (htv : t.get q.it = .ptr itid 0) (hb0 : pit.base = 0)
    (hm1 : w.heap[pm.blk]? = some (.map cur clock)) (hm2 : MEs r es cur.toList) (hm3 : ∀ e ∈ es, e.born < clock) (hm4 : w.heap[pit.blk]? = some (.mapIter (some pm.blk) clock #[] clock))
    (hs : St P n m r t h a w) {f0 : Nat} (hk : goD (runD q J n (seqC (opsB P n o21 tail).f fr) call t) f0 [] es ((h.put itid none).put mid none) (fun h' => k 0 0 (junkK t J) h') = some x) :
    (Code.block id (.loop (.seq (.region rid1 o20 false) (.seq (.cond (.tmp q.c) .skip (.exit id)) (.block id2 (.seq (.region rid2 o21 false) rest)))))).wpIn (fw ro) 0 P (After P n m k x r h w) a w := by
  have hsz20 : o20.size = 2 := by have := congrArg List.length h20; simpa using this
  have hsz21 : o21.size = tail.length + 1 := by have := congrArg List.length h21; simpa using this
  have ho0 : o20[0]? = some x20 := by have : o20[0]? = o20.toList[0]? := by simp
                                      rw [this, h20]; rfl
  have ho1 : o20[1]? = some x21 := by have : o20[1]? = o20.toList[1]? := by simp
                                      rw [this, h20]; rfl
  have hoe : o21[0]? = some e0 := by have : o21[0]? = o21.toList[0]? := by simp
                                     rw [this, h21]; rfl
  have hborn : ∀ X ∈ cur.toList, X.born < clock := fun X hX => by
    obtain ⟨e, q1, q2⟩ := hm2.mem X hX
    rw [q2]; exact hm3 e q1
  have hnd : (cur.toList.map (·.born)).Nodup := by
    rw [hm2.borns]
    rw [List.nodup_iff_pairwise_ne, List.pairwise_map]
    exact H.born.imp fun hh e => hh e.symm
  have hapart : ∀ e ∈ es, ∀ f ∈ es, f.born = e.born → f = e := fun e he f hf hb => Classical.byContradiction fun hne => (pairwise_ne (R := fun e f => f.born ≠ e.born) (fun x y hh e => hh e.symm) H.born e he f hf fun e2 => hne e2.symm) hb
  generalize hrun : runD q J n (seqC (opsB P n o21 tail).f fr) call t = run at hk
  generalize hkk : (fun h' => k 0 0 (junkK t J) h') = kk at hk
  let I : Act → World → Prop := fun a' w' => ∃ s seen g N Z f, AnyD P n m J t r h w es pit pm cur clock run kk x seen s g N Z f a' w'
  refine wpIn_block (wpIn_loop I (fun _ w' => anyM pit.blk cur w') ?_ fun a' w' hI => ?_)
  · obtain ⟨f', N, Z', k1, k2, -, k4⟩ := goD_some hk
    refine ⟨r, #[], (h.put itid none).put mid none, N, Z', f', ⟨fun i hi => ?_, hs.sz, hs.marks, hm4, hm1, ?_, H.off0, k4, fun z hz => ?_, fun e he _ => ?_, fun e he => ⟨((k1 e).1 he).1, by simp⟩⟩⟩
    · by_cases hJ : J.elem i = true
      · rw [junkK_get hi, hJ]; exact .junk _
      · rw [junkK_get hi, if_neg hJ]; exact hs.fr i hi
    · have hd := Post.drop hs.rel itid H.it
      exact hd.trans (Post.drop hd.rel mid H.mp)
    · rcases (k2 z).1 hz with h1 | h1
      · cases h1
      · exact h1.2
    · cases hst : stillD run ((h.put itid none).put mid none) e with
      | true => exact .inr ((k2 e).2 (.inr ⟨he, hst⟩))
      | false => exact .inl ((k1 e).2 ⟨he, hst⟩)
  obtain ⟨s, seen, g, N, Z, f, S⟩ := hI
  have hev : a'.eval (.tmp q.it) = .pointer (some ⟨pit.blk, 0, none⟩) := by
    have h1 := S.fr q.it hit
    rw [junkK_get hit, j0, if_neg (by simp), htv] at h1
    obtain ⟨p, h2, h3, -⟩ := h1.inv3 rfl rfl
    have h2' : s itid = some p := h2
    rw [S.post.ext _ _ H.it] at h2'
    cases h2'
    have h3' : a'.tmps.getD q.it undef = .pointer (some ⟨pit.blk, pit.base + 0, none⟩) := h3
    rw [hb0] at h3'
    exact h3'
  have hM : anyM pit.blk cur w' = (leftOf cur seen).size := by simp [anyM, S.itr]
  have hlen : w'.heap.size > pit.blk := (Array.getElem?_eq_some_iff.1 S.itr).1
  refine wpIn_seq (wpIn_region ?_)
  rw [hsz20, show List.range 2 = [0, 1] from rfl, wpOpsIn_cons]
  rcases run_next_at (P := P) w' x20.type pit.blk pm.blk clock clock seen cur clock S.itr S.mp hborn (Nat.le_refl _) with ⟨hn0, hrun'⟩ | ⟨E, hE, w1, hw1, hrun'⟩
  · refine wp_value (v' := .tuple #[.bool false]) (w' := w') ho0 (wanted_none g1 _) (fun c e => by rw [p1] at e; cases e) ?_ ?_
    · simp only [execOp, p1, hev, hrun', Sem.run_bind, Result.andThen_ok]; rfl
    rw [d1, wpOpsIn_cons]
    have hv1 : (a'.put (some q.n1) (.tuple #[.bool false])).eval (.tmp q.n1) = .tuple #[.bool false] := put_tmp_eq (by rw [S.sz]; exact l1)
    refine wp_value (v' := .bool false) (w' := w') ho1 (wanted_none g2 _) (fun c e => by rw [p2] at e; cases e) ?_ ?_
    · simp only [execOp, p2, hv1]; rfl
    rw [d2]
    have hv2 : ((a'.put (some q.n1) (.tuple #[.bool false])).put (some q.c) (.bool false)).eval (.tmp q.c) = .bool false := put_tmp_eq (by rw [put_size, S.sz]; exact l2)
    refine wpIn_seq (wpIn_cond_false hv2 (wpIn_exit ?_))
    show Exit.inBlock id (After P n m k x r h w) (.exit id) _ _
    simp only [Exit.inBlock, if_true]
    have hall : ∀ e ∈ es, seen.contains e.born = true := fun e he => by
      have h1 : e.born ∈ cur.toList.map (·.born) := by rw [hm2.borns]; exact List.mem_map.2 ⟨e, he, rfl⟩
      obtain ⟨X, h2, h3⟩ := List.mem_map.1 h1
      rw [← h3]
      exact all_seen cur seen hn0 X h2
    have hN : N = [] := by
      cases N with
      | nil => rfl
      | cons e N =>
        obtain ⟨h1, h2⟩ := S.uns e List.mem_cons_self
        rw [hall e h1] at h2
        cases h2
    have hkx : k 0 0 (junkK t J) g = some x := by
      rcases S.go with ⟨-, h1⟩ | ⟨h1, -⟩
      · rw [← hkk] at h1
        exact h1
      · exact absurd hN h1
    have hp := S.post
    exact ⟨0, 0, junkK t J, _, s, hkx, rfl, ⟨(S.fr.junk_put j1 _).junk_put j2 _, put_size.trans (put_size.trans S.sz), hs.le, hp.rel, by rw [put_defers, put_defers]; exact S.marks, Nat.le_trans hs.low hp.size⟩, hp⟩
  · obtain ⟨hEc, hEs⟩ := mem_left hE
    obtain ⟨e, he, eb, ek, ev⟩ := hm2.mem2 E hEc
    refine wp_value (v' := .tuple #[.bool true, E.key, E.val]) (w' := setBlock w1 pit.blk (.mapIter (some pm.blk) clock (seen.push E.born) clock)) ho0 (wanted_none g1 _) (fun c e => by rw [p1] at e; cases e) ?_ ?_
    · simp only [execOp, p1, hev, hrun', Sem.run_bind, Result.andThen_ok]; rfl
    rw [d1, wpOpsIn_cons]
    generalize hw2 : setBlock w1 pit.blk (.mapIter (some pm.blk) clock (seen.push E.born) clock) = w2
    have hw1h : w1.heap = w'.heap ∧ w1.os = w'.os ∧ w1.tape = w'.tape ∧ w1.output = w'.output := by rcases hw1 with rfl | rfl <;> exact ⟨rfl, rfl, rfl, rfl⟩
    have hfar : ∀ c, c ≠ pit.blk → w2.heap[c]? = w'.heap[c]? := fun c hc => by
      rw [← hw2, ← hw1h.1]; simp [setBlock, Array.getElem?_setIfInBounds_ne (Ne.symm hc)]
    have hz2 : w2.heap.size = w'.heap.size := by rw [← hw2, ← hw1h.1]; simp [setBlock]
    have hit2 : w2.heap[pit.blk]? = some (.mapIter (some pm.blk) clock (seen.push E.born) clock) := by
      rw [← hw2]; simp [setBlock, hw1h.1, hlen]
    have hpmne : pm.blk ≠ pit.blk := fun e2 => by rw [e2, hm4] at hm1; cases hm1
    have hmp2 : w2.heap[pm.blk]? = some (.map cur clock) := (hfar _ hpmne).trans S.mp
    obtain ⟨oi, hoi, hoik⟩ := H.itk
    have hpost2 : Post P r h w s g w2 :=
      Post.far2 S.post hoi H.it rfl (fun i o p hi hs => (S.off i o p hi hs).1) hfar hz2 (by rw [← hw2]; exact hw1h.2.1) (by rw [← hw2]; exact hw1h.2.2.1) (by rw [← hw2]; exact hw1h.2.2.2)
    have hmk2 : Marks m w2 a'.defers := S.marks.keep fun b d hb => hfar b fun e2 => by rw [e2, S.itr] at hb; cases hb
    have hv1 : (a'.put (some q.n1) (.tuple #[.bool true, E.key, E.val])).eval (.tmp q.n1) = .tuple #[.bool true, E.key, E.val] := put_tmp_eq (by rw [S.sz]; exact l1)
    refine wp_value (v' := .bool true) (w' := w2) ho1 (wanted_none g2 _) (fun c e => by rw [p2] at e; cases e) ?_ ?_
    · simp only [execOp, p2, hv1]; rfl
    rw [d2]
    have hv2 : ((a'.put (some q.n1) (.tuple #[.bool true, E.key, E.val])).put (some q.c) (.bool true)).eval (.tmp q.c) = .bool true := put_tmp_eq (by rw [put_size, S.sz]; exact l2)
    have hv3 : ((a'.put (some q.n1) (.tuple #[.bool true, E.key, E.val])).put (some q.c) (.bool true)).eval (.tmp q.it) = .pointer (some ⟨pit.blk, 0, none⟩) := by
      rw [put_tmp_ne i2, put_tmp_ne i1, hev]
    refine wpIn_seq (wpIn_cond_true hv2 (wpIn_skip ?_))
    refine wpIn_block (wpIn_seq (wpIn_region ?_))
    rw [hsz21, List.range_eq_range', List.range'_succ, wpOpsIn_cons]
    have hent := run_entry_at (P := P) w2 pit.blk pm.blk clock seen cur clock E hit2 hmp2 hEc hnd
    refine wp_value (v' := .tuple #[E.key, E.val]) (w' := w2) hoe (wanted_none g3 _) (fun c e => by rw [p3] at e; cases e) ?_ ?_
    · simp only [execOp, p3, hv3, hent, Sem.run_bind, Result.andThen_ok]; rfl
    rw [d3]
    have hD : seen.contains e.born = false := by rw [← eb]; exact hEs
    have hle : r.le s := hpost2.ext
    have hfr := any_frame (n := n) (e1 := q.e1) (c := q.c) (n1 := q.n1) hs.le S.fr S.sz (VR.tup #[.bool true, E.key, E.val] (.cons (.bool true) (.cons (ek.mono hle) (.cons (ev.mono hle) .nil)))) (VR.tup #[E.key, E.val] (.cons (ek.mono hle) (.cons (ev.mono hle) .nil))) true
    have hst : ∀ G : AH, Rel P s G w2 → St P n m s (anyT q J n t e) G (((a'.put (some q.n1) (.tuple #[.bool true, E.key, E.val])).put (some q.c) (.bool true)).put (some q.e1) (.tuple #[E.key, E.val])) w2 := fun G hG =>
      ⟨hfr, put_size.trans (put_size.trans (put_size.trans S.sz)), hs.le, hG, by rw [put_defers, put_defers, put_defers]; exact hmk2, Nat.le_trans hs.low hpost2.size⟩
    have hsh : (leftOf cur (seen.push E.born)).size < (leftOf cur seen).size := left_shrinks cur seen E hE
    have hitlt : pit.blk < w2.heap.size := by omega
    have hpmlt : pm.blk < w2.heap.size := (Array.getElem?_eq_some_iff.1 hmp2).1
    have hex : ∀ (y o : Nat), (y = 0 ∨ (y = 1 ∧ o = q.id2)) → exitOf y o = .normal ∨ exitOf y o = .exit q.id2 := fun y o hy => by
      rcases hy with rfl | ⟨rfl, rfl⟩
      · exact .inl rfl
      · exact .inr rfl
    have hpush : ∀ f : ME, (seen.push E.born).contains f.born = false → seen.contains f.born = false ∧ f.born ≠ e.born := fun f hf => by
      rw [Array.contains_push', Bool.or_eq_false_iff] at hf
      refine ⟨hf.1, fun e2 => ?_⟩
      rw [e2, ← eb, Nat.beq_refl] at hf
      cases hf.2
    have hpush2 : ∀ f : ME, seen.contains f.born = false → f.born ≠ e.born → (seen.push E.born).contains f.born = false := fun f h1 h2 => by
      rw [Array.contains_push', h1, Bool.false_or]
      cases hb : Nat.beq f.born E.born with
      | false => rfl
      | true => exact absurd ((beq_of hb).trans eb) h2
    by_cases heN : e ∈ N
    · rcases S.go with ⟨hN, -⟩ | ⟨-, hxy, hgo⟩
      · rw [hN] at heN; cases heN
      have hwalk := hgo e heN
      rw [← hrun, runD_eq, hrun] at hwalk
      refine any_body hc hrest hro h21 hwalk (hst g hpost2.rel) fun ex a3 w3 ha => ?_
      obtain ⟨y, o, t', h2, s2, r1, rfl, r2, r3⟩ := ha
      obtain ⟨hy, hsame, hg2⟩ := endD_ok r1
      obtain ⟨f', N2, Z2, k1, k2, k3, k4⟩ := goD_some hg2
      have hI' : I a3 w3 := ⟨s2, seen.push E.born, h2, N2, Z2, f',
        ⟨FrR.junk hs.le r2.sz r2.fr hsame fun i h1 h2 => (H.junk i h1 h2).mono (Ren.le_trans hle r3.ext), r2.sz, r2.marks,
          (r3.frame _ hitlt fun i o p hi hsi => (S.off i o p hi hsi).1).trans hit2, (r3.frame _ hpmlt fun i o p hi hsi => (S.off i o p hi hsi).2).trans hmp2, hpost2.trans r3,
          fun i o p hi hsi => (by
            rcases r3.own i o p hi hsi with h1 | ⟨j, o', q', h1, h3, h4⟩
            · exact ⟨fun e2 => by omega, fun e2 => by omega⟩
            · have := S.off j o' q' h1 h3
              rw [h4] at this
              exact this),
          by rw [hxy]; exact k4,
          fun z hz => ((k2 z).1 hz).elim (fun h1 => k3 z h1) fun h1 => h1.2,
          fun f hf hu => (by
            obtain ⟨h1, h3⟩ := hpush f hu
            rcases S.cov f hf h1 with h4 | h4
            · have h5 : f ∈ lessD e.born N := lessD_mem.2 ⟨h4, h3⟩
              cases hst2 : stillD run h2 f with
              | true => exact .inr ((k2 f).2 (.inr ⟨h5, hst2⟩))
              | false => exact .inl ((k1 f).2 ⟨h5, hst2⟩)
            · exact .inr ((k2 f).2 (.inl h4))),
          fun f hf => (by
            obtain ⟨h1, h3⟩ := lessD_mem.1 ((k1 f).1 hf).1
            obtain ⟨h4, h5⟩ := S.uns f h1
            exact ⟨h4, hpush2 f h5 h3⟩)⟩⟩
      have hM' : anyM pit.blk cur w3 = (leftOf cur (seen.push E.born)).size := by
        have := (r3.frame _ hitlt fun i o p hi hsi => (S.off i o p hi hsi).1).trans hit2
        simp [anyM, this]
      have hfin : I a3 w3 ∧ anyM pit.blk cur w3 < anyM pit.blk cur w' := ⟨hI', by rw [hM', hM]; exact hsh⟩
      rcases hy with rfl | ⟨rfl, rfl⟩
      · exact hfin
      · show Exit.inBlock id2 _ (.exit q.id2) _ _
        simp only [Exit.inBlock, hid2, if_true]
        exact hfin
    · have heZ : e ∈ Z := (S.cov e he hD).elim (fun h1 => absurd h1 heN) fun h1 => h1
      obtain ⟨y0, hwalk⟩ := stillD_some (S.zs e heZ)
      rw [← hrun, runD_eq] at hwalk
      refine any_body hc hrest hro h21 hwalk (hst g.mark (hpost2.rel.sub (fun i o hi => by rwa [AH.get_mark] at hi) (Nat.le_refl _))) fun ex a3 w3 ha => ?_
      obtain ⟨y, o, t', h2, s2, r1, rfl, r2, r3⟩ := ha
      obtain ⟨hy, hsame, hg2⟩ := endD_ok r1
      obtain ⟨hlow, -⟩ := ifB_some hg2
      have hlow := Nat.le_of_ble_eq_true hlow
      have hpo : Post P s g w2 s g w3 := Post.still hpost2.rel (fun i => AH.get_mark g i) r3 fun i hi => (r3.froz.2 i (Nat.lt_of_lt_of_le hi hlow)).trans (AH.get_mark g i)
      have hitr3 := (hpo.frame _ hitlt fun i o p hi hsi => (S.off i o p hi hsi).1).trans hit2
      have hI' : I a3 w3 := ⟨s, seen.push E.born, g, N, Z, f,
        ⟨S.fr.back r3.ext (FrR.junk hs.le r2.sz r2.fr hsame fun i h1 h2 => (H.junk i h1 h2).mono (Ren.le_trans hle r3.ext)), r2.sz, r2.marks,
          hitr3, (hpo.frame _ hpmlt fun i o p hi hsi => (S.off i o p hi hsi).2).trans hmp2, hpost2.trans hpo, S.off, S.go, S.zs,
          fun f hf hu => S.cov f hf (hpush f hu).1,
          fun f hf => (by
            obtain ⟨h4, h5⟩ := S.uns f hf
            exact ⟨h4, hpush2 f h5 fun e2 => heN (hapart e he f h4 e2 ▸ hf)⟩)⟩⟩
      have hM' : anyM pit.blk cur w3 = (leftOf cur (seen.push E.born)).size := by simp [anyM, hitr3]
      have hfin : I a3 w3 ∧ anyM pit.blk cur w3 < anyM pit.blk cur w' := ⟨hI', by rw [hM', hM]; exact hsh⟩
      rcases hy with rfl | ⟨rfl, rfl⟩
      · exact hfin
      · show Exit.inBlock id2 _ (.exit q.id2) _ _
        simp only [Exit.inBlock, hid2, if_true]
        exact hfin
end
end Go.Proofs.YtfkdkbekmimhoaaGreatDoor
/- The machine for closed runs: a range over a map in any order: blocks. -/
namespace Go.Proofs.YtfkdkbekmimhoaaGreatDoor

/-- What the shape says. -/
theorem anyShape_ok {id : Nat} {b : Code} {q : AnyP} (h : anyShape id b = some q) : ∃ rid1 rid2 o20 x20 x21 e0 , b = .loop (.seq (.region rid1 o20 false) (.seq (.cond (.tmp q.c) .skip (.exit id)) (.block q.id2 (.seq (.region rid2 q.o21 false) q.rest)))) ∧
    o20.toList = [x20, x21] ∧ q.o21.toList = e0 :: q.tail ∧ x20.op = .next (.tmp q.it) false ∧ x21.op = .extract (.tmp q.n1) 0 ∧ e0.op = .entry (.tmp q.it) ∧ x20.dst = some q.n1 ∧ x21.dst = some q.c ∧ e0.dst = some q.e1 ∧
    x20.guard = none ∧ x21.guard = none ∧ e0.guard = none ∧ q.it ≠ q.n1 ∧ q.it ≠ q.c := by
  unfold anyShape at h
  split at h
  · rename_i rid1 o20 c id' id2 rid2 o21 rest
    unfold anyOps at h
    split at h
    · rename_i a b e tail h20 h21
      split at h
      · rename_i it m1 it' n1 c' e1 p1 p2 p3 p4 p5 p6 p7 p8 p9
        split at h
        · rename_i hc
          simp only [Bool.and_eq_true, Bool.not_eq_true'] at hc
          obtain ⟨⟨⟨⟨⟨⟨c1, c2⟩, c3⟩, c4⟩, c5⟩, c6⟩, c7⟩ := hc
          have c1 := beq_of c1
          have c2 := beq_of c2
          have c3 := beq_of c3
          have c4 := beq_of c4
          subst c1
          subst c2
          subst c3
          subst c4
          cases h
          exact ⟨rid1, rid2, o20, a, b, e, rfl, h20, h21, p1, p2, p3, p4, p5, p6, p7, p8, p9, (fun e => by rw [show Nat.beq it _ = true from (congrArg (Nat.beq it) e.symm).trans (Nat.beq_refl it)] at c5; cases c5), (fun e => by rw [show Nat.beq it _ = true from (congrArg (Nat.beq it) e.symm).trans (Nat.beq_refl it)] at c6; cases c6)⟩
        · cases h
      · cases h
    · cases h
  · cases h

theorem bornsOk_ok : ∀ {l : List ME}, bornsOk l = true → l.Pairwise fun e f => f.born ≠ e.born
  | [], _ => .nil
  | a :: l, h => by
    have h : ifB (l.all fun f => !Nat.beq f.born a.born) (bornsOk l) false = true := h
    obtain ⟨h1, h2⟩ := ifB2 h
    refine .cons (fun f hf e => ?_) (bornsOk_ok h2)
    have := List.all_eq_true.1 h1 f hf
    rw [e, Nat.beq_refl] at this
    cases this
section
variable {P : Program} {n : Nat} {call : CallT}
theorem any_ok {rd : Bool} {id : Nat} {b : Code} {q : AnyP} {J sh : List Nat} {fr : CodeT} {ord : CodeT} (hq : anyShape id b = some q) (l1 : q.n1 < n) (l2 : q.c < n) (j1 : J.elem q.n1 = true) (j2 : J.elem q.c = true) (hc : CallOk P call) (hrest : CodeOk P n call q.rest fr rd) (hord : CodeOk P n call (.block id b) ord rd) :
    CodeOk P n call (.block id b) (anyC q J sh n (seqC (opsB P n q.o21 q.tail).f fr) ord) rd := by
  intro ro m t h k x r a w hro hf hs
  have hf : ifB (anyTest h ((evB (.tmp q.it)).f t)) (iterK h ((evB (.tmp q.it)).f t) fun r m => ifB (sliceD m.es) (ifB (ownsOk m.es && !J.elem q.it && (List.casesOn r.ns true fun _ _ => false) && (Option.casesOn ((mapsK h t ⟨.nil, h.next⟩ sh).get r.n) true fun _ => false)) (anyAllK (anyOneK q J sh n (seqC (opsB P n q.o21 q.tail).f fr) call t h) m.es (h.put ((evB (.tmp q.it)).f t).b none) fun h' => k 0 0 (junkK t J) h') none)
    (ifB (bornsOk m.es && !J.elem q.it && (List.casesOn r.ns true fun _ _ => false)) (goD (runD q J n (seqC (opsB P n q.o21 q.tail).f fr) call t) (Nat.succ m.es.length) [] m.es ((h.put ((evB (.tmp q.it)).f t).b none).put r.n none) fun h' => k 0 0 (junkK t J) h') none)) (ord call t h k) = some x := hf
  cases htest : anyTest h ((evB (.tmp q.it)).f t) with
  | false =>
    rw [htest, ifB_f] at hf
    exact hord ro m t h k x r a w hro hf hs
  | true =>
    rw [htest, ifB_t] at hf
    obtain ⟨h1, h2, h3, ri, mo, h4, h5, h6, h7, h8, hf⟩ := iterK_some hf
    have hit : q.it < 512 := Classical.byContradiction fun e => by rw [ev_big t e] at h1; cases h1
    obtain ⟨pit, q1, -, q3⟩ := (evB_ok hs.fr (.tmp q.it)).inv3 h1 h2
    obtain ⟨pm, c1, c2, c3, c4⟩ := iter_live hs.rel h4 h5 q1
    obtain ⟨cur, d1, d2, d3⟩ := map_live hs.rel h6 h7 c2
    rw [h8] at d1 d3
    have hjunk : ∀ i, n ≤ i → i < 512 → VR r ((junkK t J).get i) undef := fun i hi hi5 => by
        by_cases hJ : J.elem i = true
        · rw [junkK_get hi5, hJ]; exact .junk _
        · rw [junkK_get hi5, if_neg hJ]
          have := hs.fr i hi5
          have e : a.tmps.getD i undef = undef := by simp [Array.getD_eq_getD_getElem?, Array.getElem?_eq_none (by rw [hs.sz]; omega : a.tmps.size ≤ i)]
          rwa [e] at this
    cases hsl : sliceD mo.es with
    | false =>
      rw [hsl, ifB_f] at hf
      obtain ⟨h9, hf⟩ := ifB_some hf
      simp only [Bool.and_eq_true, Bool.not_eq_true'] at h9
      obtain ⟨⟨o1, o2⟩, o3⟩ := h9
      have hns : ri.ns = [] := by
        cases hns : ri.ns with
        | nil => rfl
        | cons b l => rw [hns] at o3; cases o3
      rw [hns] at c1
      have H : AnyG P n J t r h w mo.es ((evB (.tmp q.it)).f t).b ri.n pit pm := ⟨hs.rel, q1, ⟨ri, h4, h5⟩, c2, ⟨mo, h6, h7⟩, bornsOk_ok o1, hs.le, hjunk⟩
      obtain ⟨rid1, rid2, o20, x20, x21, e0, rfl, s1, s2, s3, s4, s5, s6, s7, s8, s9, s10, s11, s12, s13⟩ := anyShape_ok hq
      refine H.loop (cur := cur) (clock := ri.m) (id2 := q.id2) hc hrest hro s1 s2 s3 s4 s5 s6 s7 s8 s9 s10 s11 s12 s13 rfl l1 l2 o2 j1 j2 hit ?_ c3 d1 d2 d3 c1 hs hf
      rw [ev_get t hit] at q3 h3 ⊢
      rw [h3] at q3
      exact q3
    | true =>
    rw [hsl, ifB_t] at hf
    obtain ⟨h9, hf⟩ := ifB_some hf
    simp only [Bool.and_eq_true, Bool.not_eq_true'] at h9
    obtain ⟨⟨⟨o1, o2⟩, o3⟩, o4⟩ := h9
    have hns : ri.ns = [] := by
      cases hns : ri.ns with
      | nil => rfl
      | cons b l => rw [hns] at o3; cases o3
    rw [hns] at c1
    have hown := ownsOk_ok o1
    obtain ⟨res, hk, hgood⟩ := anyAll_ok (Good := GoodE q J sh n (seqC (opsB P n q.o21 q.tail).f fr) call t h) (fun e k hf => anyOne_ok e k hf) (hown.imp fun hh => hh.2) hf
    have hmno : (mapsK h t ⟨.nil, h.next⟩ sh).get ri.n = none := by
      cases hg : (mapsK h t ⟨.nil, h.next⟩ sh).get ri.n with
      | none => rfl
      | some o => rw [hg] at o4; cases o4
    have H : AnyH P n call q J sh (seqC (opsB P n q.o21 q.tail).f fr) t r h w mo.es res ((evB (.tmp q.it)).f t).b ri.n pit pm :=
      ⟨hs.rel, q1, ⟨ri, h4, h5⟩, c2, ⟨mo, h6, h7⟩, hmno, hgood, hown, hs.le, hjunk⟩
    obtain ⟨rid1, rid2, o20, x20, x21, e0, rfl, s1, s2, s3, s4, s5, s6, s7, s8, s9, s10, s11, s12, s13⟩ := anyShape_ok hq
    refine H.loop (cur := cur) (clock := ri.m) (id2 := q.id2) hc hrest hro s1 s2 s3 s4 s5 s6 s7 s8 s9 s10 s11 s12 s13 rfl l1 l2 o2 j1 j2 hit ?_ c3 d1 d2 d3 c1 hs hk
    rw [ev_get t hit] at q3 h3 ⊢
    rw [h3] at q3
    exact q3

theorem blk_ok (hc : CallOk P call) (hm : P.follows .mixedOrders = true) {rd : Bool} (id : Nat) (b : Code) (bb : Bx CodeT) (hb : CodeOk P n call b bb.f rd) : CodeOk P n call (.block id b) (blkB P n rd id b bb).f rd := by
  unfold blkB
  split
  · rename_i q hq
    split
    · rename_i hl
      simp only [Bool.and_eq_true] at hl
      have hrest : CodeOk P n call q.rest (codeB0 P n rd q.rest).f rd := code_ok hc (fun id b bb hb => block_ok hb) (fun id ops => draw_ok hm hc id ops) (fun g ps asg body => rangeF_ok hc g ps asg body) q.rest
      exact any_ok hq (Nat.le_of_ble_eq_true hl.1) (Nat.le_of_ble_eq_true hl.2) (by simp) (by simp) hc hrest (block_ok hb)
    · exact block_ok hb
  · exact block_ok hb
end
end Go.Proofs.YtfkdkbekmimhoaaGreatDoor
/- The machine for closed runs: functions; every call. -/
namespace Go.Proofs.YtfkdkbekmimhoaaGreatDoor

section
variable {P : Program} {n m : Nat} {call : CallT} {x : RV}

theorem args_ok {k : Fr → R} : ∀ (N i : Nat) (t : Fr) (xs : List AV), i + N ≤ 512 → (argsB i N).f t xs k = some x → xs.length = N ∧ ∃ t', k t' = some x ∧ ∀ j, j < 512 → t'.get j = if i ≤ j ∧ j < i + N then xs.getD (j - i) .undef else t.get j
  | 0, i, t, [], hi, hf => ⟨rfl, t, hf, fun j hj => by rw [if_neg (by omega)]⟩
  | 0, i, t, _ :: _, hi, hf => by cases hf
  | N + 1, i, t, [], hi, hf => by cases hf
  | N + 1, i, t, y :: xs, hi, hf => by
    obtain ⟨h1, t', h2, h3⟩ := args_ok N (i + 1) ((setF i).f t y) xs (by omega) hf
    refine ⟨by simp [h1], t', h2, fun j hj => ?_⟩
    rw [h3 j hj, setF_get hj (by omega)]
    by_cases e : j = i
    · subst e
      rw [if_neg (by omega), if_pos rfl, if_pos (by omega)]
      simp
    · by_cases e2 : i + 1 ≤ j ∧ j < i + 1 + N
      · rw [if_pos e2, if_pos (by omega)]
        have : j - i = (j - (i + 1)) + 1 := by omega
        rw [this]
        simp
      · rw [if_neg e2, if_neg e, if_neg (by omega)]
theorem start_ok {r : Ren} {xs : List AV} {args : Array Value} {t : Fr} {N : Nat} (hx : VRs r xs args.toList) (hl : xs.length = N) (_hN : N ≤ n) (h : ∀ j, j < 512 → t.get j = if 0 ≤ j ∧ j < 0 + N then xs.getD (j - 0) .undef else frame0.get j) :
    FrR r t (args ++ Array.replicate (n - args.size) undef) := by
  have hsz : args.size = N := by have := hx.length; simp at this; omega
  intro j hj
  rw [h j hj]
  by_cases e : j < N
  · rw [if_pos (by omega)]
    have hjx : j < xs.length := by omega
    obtain ⟨v, h1, h2⟩ := hx.get (List.getElem?_eq_getElem hjx)
    have e1 : xs.getD (j - 0) .undef = xs[j] := by simp [hjx]
    have h1' : args[j]? = some v := by simpa using h1
    have e2 : (args ++ Array.replicate (n - args.size) undef).getD j undef = v := by
      rw [Array.getD_eq_getD_getElem?, Array.getElem?_append_left (by omega), h1']
      rfl
    rw [e1, e2]
    exact h2
  · rw [if_neg (by omega), frame0_get]
    have e2 : (args ++ Array.replicate (n - args.size) undef).getD j undef = undef := by
      rw [Array.getD_eq_getD_getElem?, Array.getElem?_append_right (by omega), Array.getElem?_replicate]
      split <;> rfl
    rw [e2]
    exact VR.undef

def resSem (tmps : Array Value) (v : ResultVar) : Sem Value :=
  match v with
  | .tmp t => pure (tmps.getD t undef)
  | .cell a t => do loadVar t (← asAddr (tmps.getD a undef))
theorem res_ok {r : Ren} {h : AH} {w : World} {t : Fr} {tmps : Array Value} (hr : Rel P r h w) (hfr : FrR r t tmps) : ∀ (rs : List ResultVar) (k : List AV → R), (resB P rs).f t h k = some x →
    ∃ l vs, k l = some x ∧ (rs.mapM (resSem tmps)).run P w = .ok vs w ∧ VRs r l vs
  | [], k, hf => ⟨[], [], hf, by simp, .nil⟩
  | .tmp i :: rs, k, hf => by
    obtain ⟨l, vs, h1, h2, h3⟩ := res_ok hr hfr rs _ hf
    refine ⟨_, tmps.getD i undef :: vs, h1, ?_, .cons (evB_ok (a := { tmps := tmps, defers := [] }) hfr (.tmp i)) h3⟩
    rw [List.mapM_cons]
    simp [resSem, h2]
  | .cell i ty :: rs, k, hf => by
    obtain ⟨h1, h2, ob, h3, h4, hf⟩ := cellsK_some hf
    obtain ⟨p, h5, h6, -⟩ := (evB_ok (a := { tmps := tmps, defers := [] }) hfr (.tmp i)).inv3 h1 h2
    obtain ⟨cur, fz, c1, c2, c3, c4, c5, c6, -⟩ := (hr.live _ _ _ h3 h5).cells h4
    obtain ⟨av, v, h7, h8, h9⟩ := part_load (P := P) (r := r) (w := w) (b := p.blk) (base := p.base) hf fun j b hj => by
      obtain ⟨v, h, h'⟩ := c6 j b hj
      exact ⟨v, by rw [cell_of c1]; exact h, h'⟩
    obtain ⟨l, vs, h10, h11, h12⟩ := res_ok hr hfr rs _ h7
    have h6' : tmps.getD i undef = .pointer (some ⟨p.blk, p.base + ((evB (.tmp i)).f t).c, none⟩) := h6
    refine ⟨_, v :: vs, h10, ?_, .cons h9 h12⟩
    rw [List.mapM_cons]
    simp [resSem, h6', asAddr, h8, h11]

theorem tup_ok {r : Ren} : ∀ {l : List AV} {vs : List Value}, VRs r l vs → VR r (tupA l) (if h : vs.toArray.size = 1 then vs.toArray[0] else .tuple vs.toArray)
  | _, _, .nil => .tup #[] .nil
  | _, _, .cons h .nil => h
  | _, _, .cons h (.cons h2 t) => .tup _ (.cons h (.cons h2 t))

/-- A block that nothing lives in is written. -/
theorem off_ok {r : Ren} {h : AH} {w : World} (hr : Rel P r h w) {b : Nat} {d d' : Option (List Deferred)} (hb : w.heap[b]? = some (.deferred d)) : Rel P r h (wobj w b (.deferred d')) :=
  ⟨hr.small, fun i o p h1 h2 => (hr.live i o p h1 h2).same (by
    have : p.blk ≠ b := fun e => (hr.live i o p h1 h2).no_mark (e ▸ hb)
    simp [wobj, Array.getElem?_setIfInBounds_ne (Ne.symm this)]), hr.inj, fun i p hp => ⟨(hr.dom i p hp).1, by have := (hr.dom i p hp).2; simpa [wobj] using this⟩, hr.top⟩
theorem post_off {r s : Ren} {h h' : AH} {w0 w : World} (hp : Post P r h w0 s h' w) {b : Nat} {d d' : Option (List Deferred)} (hb : w.heap[b]? = some (.deferred d)) (hlo : w0.heap.size ≤ b) : Post P r h w0 s h' (wobj w b (.deferred d')) :=
  ⟨off_ok hp.rel hb, hp.ext, hp.new, hp.nxt, by simpa [wobj] using hp.size, fun c hc hno => by
    have : (wobj w b (.deferred d')).heap[c]? = w.heap[c]? := by simp [wobj, Array.getElem?_setIfInBounds_ne (by omega : b ≠ c)]
    rw [this]; exact hp.frame c hc hno, hp.own, hp.keep, hp.os, hp.tape, hp.output, hp.froz⟩
theorem run_take {w : World} {b : Nat} (hb : w.heap[b]? = some (.deferred (some []))) : (Instr.takeDeferred b).run P w = .ok [] (wobj w b (.deferred none)) := by
  simp [Instr.takeDeferred, getObj, setObj, Sem.run, hb, wobj]
theorem Marks.off {w : World} {b : Nat} {d : Option (List Deferred)} : ∀ {ds : List Deferred}, Marks m w ds → (∀ d ∈ ds, d.target ≠ .collected b) → Marks m (wobj w b (.deferred d)) ds
  | _, .nil, _ => .nil
  | _, .cons (b := c) h0 h1 h2 t, hn => by
    have hne : b ≠ c := fun e => hn _ List.mem_cons_self (by rw [e])
    exact .cons h0 (by simpa [wobj, Array.getElem?_setIfInBounds_ne hne] using h1) h2 (Marks.off t fun d hd => hn d (List.mem_cons_of_mem _ hd))

/-- A function leaves. -/
theorem leaves_ok {fn : Func} {r s : Ren} {h h' : AH} {w0 : World} {t : Fr} {tmps : Array Value} {k : KV} (hfr : FrR s t tmps) (hf : (resB P fn.results.toList).f t h' (fun l => k (tupA l) h') = some x) : ∀ {ds : List Deferred} {w : World}, Post P r h w0 s h' w → Marks w0.heap.size w ds →
    LeavesInM Fence.wide 0 P fn tmps (fun e w' => ∃ v v' h' s, e = .returned v' ∧ k v h' = some x ∧ VR s v v' ∧ Post P r h w0 s h' w') ds .returning w
  | _, w, hp, .nil => by
    obtain ⟨l, vs, h1, h2, h3⟩ := res_ok hp.rel hfr _ _ hf
    refine ⟨_, ?_, tupA l, _, h', s, rfl, h1, tup_ok h3, hp⟩
    have e : results fn tmps = (do
        let vs ← fn.results.mapM (resSem tmps)
        pure (if h : vs.size = 1 then vs[0] else .tuple vs)) := by
      unfold results
      congr 1
    rw [e, Sem.run_bind, Array.mapM_eq_mapM_toList, Sem.run_map, h2]
    rfl
  | _, w, hp, .cons h0 h1 h2 t => by
    refine ⟨by simp, .inl ⟨_, _, rfl, run_take h1, leaves_ok hfr hf (post_off hp h1 h0) (t.off h2)⟩⟩

theorem st_ok (hcode : ∀ (n : Nat) (c : Code), CodeOk P n call c (codeB P n false c).f false) {f : Nat} {xs : List AV} {h : AH} {k : KV} {r : Ren} {args : Array Value} {w : World} (hf : (fnB P f).run call xs h k = some x) (hr : Rel P r h w) (hx : VRs r xs args.toList) :
    Coded P f ∧ CallsIn Fence.wide 0 P f args w (fun e w' => ∃ v v' h' s, e = .returned v' ∧ k v h' = some x ∧ VR s v v' ∧ Post P r h w s h' w') := by
  unfold fnB at hf
  rw [funK_eq] at hf
  split at hf
  · rename_i fn hfn
    split at hf
    · rename_i c hb
      split at hf
      · cases hf
      · rename_i hcond
        simp only [Bool.or_eq_false_iff, Bool.not_eq_false'] at hcond
        obtain ⟨⟨hname, hn⟩, hN⟩ := hcond
        have hn : fn.ntmps < 512 := by
          cases hlt : Nat.ble 512 fn.ntmps with
          | true => rw [hlt] at hn; cases hn
          | false => exact Nat.lt_of_not_le fun e => by rw [Nat.ble_eq_true_of_le e] at hlt; cases hlt
        have hN := Nat.le_of_ble_eq_true hN
        refine ⟨⟨fn, hfn, hname, by rw [hb]; rfl⟩, callsIn_of_wp_marks hfn hb trivial ?_⟩
        obtain ⟨h1, t, h2, h3⟩ := args_ok _ 0 frame0 xs (by omega) hf
        have hfr := start_ok (n := fn.ntmps) hx h1 hN h3
        have hsz : args.size ≤ fn.ntmps := by have := hx.length; simp at this; omega
        have hst : St P fn.ntmps w.heap.size r t h { tmps := args ++ Array.replicate (fn.ntmps - args.size) undef, defers := [] } w := ⟨hfr, by simp; omega, by omega, hr, .nil, Nat.le_refl _⟩
        refine wpIn_mono (F := fw none) (hcode fn.ntmps c none _ t h _ x r _ w (fun _ => rfl) h2 hst) fun e a' w' he => ?_
        obtain ⟨y, o, t', h', s, g1, rfl, g2, g3⟩ := he
        have hl : Nat.beq y 1 = false ∧ (resB P fn.results.toList).f t' h' (fun l => k (tupA l) h') = some x := by
          have g1 : ifB (Nat.beq y 1) none ((resB P fn.results.toList).f t' h' fun l => k (tupA l) h') = some x := g1
          cases hy : Nat.beq y 1 with
          | true => rw [hy] at g1; cases g1
          | false => rw [hy] at g1; exact ⟨rfl, g1⟩
        have hleave := leaves_ok (fn := fn) g2.fr hl.2 g3 g2.marks
        match y, hl.1 with
        | 0, _ => exact hleave
        | 1, e => cases e
        | _ + 2, _ => exact hleave
    · cases hf
  · cases hf

/-- Every call, at any depth. -/
theorem callK_ok (hm : P.follows .mixedOrders = true) : ∀ j : Nat, CallOk P (callK P j)
  | 0 => ⟨(fun f xs h k x r args w hf => by cases hf), (fun l xs h k x r p args w hf => by cases hf)⟩
  | j + 1 => by
    have ih := callK_ok hm j
    have hcode : ∀ (rd : Bool) (n : Nat) (c : Code), CodeOk P n (callK P j) c (codeB P n rd c).f rd := fun rd n c => code_ok ih (fun id b bb hb => blk_ok ih hm id b bb hb) (fun id ops => draw_ok hm ih id ops) (fun g ps asg body => rangeF_ok ih g ps asg body) c
    exact ⟨fun f xs h k x r args w hf hr hx => st_ok (hcode false) hf hr hx, fun l xs h k x r p args w hf hr hp hx => round_ok (hcode true) hf hr hp hx⟩
end
end Go.Proofs.YtfkdkbekmimhoaaGreatDoor
/- The machine for closed runs: a closed run that yields 'true'. -/
namespace Go.Proofs.YtfkdkbekmimhoaaGreatDoor
open Go.RowKit

noncomputable def yesK : KV := fun v _ => ifB (Nat.beq v.tag 1) (ifB (Nat.beq v.a 1) (some .yes) none) none
theorem rel_none {P : Program} (w : World) : Rel P (fun _ => none) ⟨.nil, 0⟩ w :=
  ⟨fun i o h => (by rw [AH.get_nil] at h; cases h), fun i o p h => (by rw [AH.get_nil] at h; cases h), fun i j o o' p q h => (by rw [AH.get_nil] at h; cases h), fun i p h => (by cases h), fun i o h => (by rw [AH.get_nil] at h; cases h)⟩
theorem closed_yes {P : Program} (hm : P.follows .mixedOrders = true) {j f : Nat} (hk : (callK P j).st f [] ⟨.nil, 0⟩ yesK = some .yes) (w : World) : Calls P f #[] w fun e w' => e = .returned (.bool true) ∧ Below w.heap.size w w' := by
  obtain ⟨-, h⟩ := (callK_ok hm j).st f [] _ _ _ _ #[] w hk (rel_none w) .nil
  refine callsIn_wide.1 (CallsIn.mono h fun e w' he => ?_)
  obtain ⟨v, v', h', s, rfl, h1, h2, h3⟩ := he
  have h1 : ifB (Nat.beq v.tag 1) (ifB (Nat.beq v.a 1) (some RV.yes) none) none = some .yes := h1
  obtain ⟨t1, h1⟩ := ifB_some h1
  obtain ⟨t2, -⟩ := ifB_some h1
  obtain ⟨b, rfl, h4⟩ := h2.inv1 (beq_of t1)
  have : b = true := by
    rw [beq_of t2] at h4
    cases b with
    | true => rfl
    | false => cases h4
  subst this
  exact ⟨rfl, h3.os, h3.tape, h3.output, h3.size, fun k hk => h3.frame k hk fun i o p hi => by rw [AH.get_nil] at hi; cases hi⟩
end Go.Proofs.YtfkdkbekmimhoaaGreatDoor
/- The machine for closed runs: functions served by their contracts. -/
namespace Go.Proofs.YtfkdkbekmimhoaaGreatDoor
open Go.RowKit

/-- A function that the machine does not run: what it yields, by its contract. -/
abbrev ExT := List AV → AH → KV → R
noncomputable def callX (P : Program) (X : Nat → Option (Bx ExT)) (n : Nat) : CallT :=
  Nat.rec (motive := fun _ => CallT) ⟨fun _ _ _ _ => none, fun _ _ _ _ => none⟩ (fun _ call => ⟨fun f xs h k => Option.rec (motive := fun _ => R) ((fnB P f).run call xs h k) (fun g => g.f xs h k) (X f), fun l xs h k => roundK P call l xs h k⟩) n

section
variable {P : Program} {x : RV}

def ExOk (P : Program) (f : Nat) (g : ExT) : Prop := ∀ xs h k x r (args : Array Value) w, g xs h k = some x → Rel P r h w → VRs r xs args.toList → Coded P f ∧
    CallsIn Fence.wide 0 P f args w (fun e w' => ∃ v v' h' s, e = .returned v' ∧ k v h' = some x ∧ VR s v v' ∧ Post P r h w s h' w')

/-- Every call, at any depth. -/
theorem callX_ok {X : Nat → Option (Bx ExT)} (hX : ∀ f g, X f = some g → ExOk P f g.f) (hm : P.follows .mixedOrders = true) : ∀ j : Nat, CallOk P (callX P X j)
  | 0 => ⟨(fun f xs h k x r args w hf => by cases hf), (fun l xs h k x r p args w hf => by cases hf)⟩
  | j + 1 => by
    have ih := callX_ok hX hm j
    have hcode : ∀ (rd : Bool) (n : Nat) (c : Code), CodeOk P n (callX P X j) c (codeB P n rd c).f rd := fun rd n c => code_ok ih (fun id b bb hb => blk_ok ih hm id b bb hb) (fun id ops => draw_ok hm ih id ops) (fun g ps asg body => rangeF_ok ih g ps asg body) c
    refine ⟨fun f xs h k x r args w hf hr hx => ?_, fun l xs h k x r p args w hf hr hp hx => round_ok (hcode true) hf hr hp hx⟩
    have hf : Option.rec (motive := fun _ => R) ((fnB P f).run (callX P X j) xs h k) (fun g => g.f xs h k) (X f) = some x := hf
    cases hg : X f with
    | none =>
      rw [hg] at hf
      exact st_ok (hcode false) hf hr hx
    | some g =>
      rw [hg] at hf
      exact hX f g hg xs h k x r args w hf hr hx

/-- What lay there stays: the machine's memory stands for the new world too. -/
theorem Post.below {r : Ren} {h : AH} {w w' : World} (hr : Rel P r h w) (hb : Below w.heap.size w w') : Post P r h w r h w' :=
  ⟨⟨hr.small, fun i o p h1 h2 => (hr.live i o p h1 h2).same (hb.block _ (hr.dom _ _ h2).2), hr.inj, fun i p hp => ⟨(hr.dom i p hp).1, Nat.lt_of_lt_of_le (hr.dom i p hp).2 hb.size⟩, hr.top⟩,
    r.le_refl, fun _ _ h => .inl h, Nat.le_refl _, hb.size, fun b hlt _ => hb.block b hlt, fun i o p h1 h2 => .inr ⟨i, o, p, h1, h2, rfl⟩, fun _ _ _ => rfl, hb.os, hb.tape, hb.output, Froz.refl _⟩
/-- A new object in a block of the call's own. -/
theorem Post.belowNew {r : Ren} {h : AH} {w w' : World} (hr : Rel P r h w) (hb : Below w.heap.size w w') {o : OB} {p : Pl} (hp : w.heap.size ≤ p.blk) (hp2 : p.blk < w'.heap.size) (ho : ObR P (r.set h.next p) p w' o) :
    Post P r h w (r.set h.next p) (h.new o) w' := by
  have hle : r.le (r.set h.next p) := r.le_set p hr.fresh
  have hset : ∀ i q, r.set h.next p i = some q → (i = h.next ∧ q = p) ∨ r i = some q := fun i q hq => by
    unfold Ren.set at hq
    by_cases e : i = h.next
    · rw [if_pos e] at hq; cases hq; exact .inl ⟨e, rfl⟩
    · rw [if_neg e] at hq; exact .inr hq
  have hget : ∀ i o', (h.new o).get i = some o' → (i = h.next ∧ o' = o ∧ h.next + 1 < 16777216) ∨ (i ≠ h.next ∧ h.get i = some o') ∨ (i = h.next ∧ h.get i = some o' ∧ ¬ h.next + 1 < 16777216) := fun i o' hi => by
    rw [AH.get_new] at hi
    by_cases e : i = h.next
    · by_cases e2 : h.next + 1 < 16777216
      · rw [if_pos ⟨e, e2⟩] at hi; cases hi; exact .inl ⟨e, rfl, e2⟩
      · rw [if_neg (fun x => e2 x.2)] at hi; exact .inr (.inr ⟨e, hi, e2⟩)
    · rw [if_neg (fun x => e x.1)] at hi; exact .inr (.inl ⟨e, hi⟩)
  have hne : ∀ i o', (h.new o).get i = some o' → i ≠ h.next → h.get i = some o' := fun i o' hi e => by
    rcases hget i o' hi with h1 | h1 | h1
    · exact absurd h1.1 e
    · exact h1.2
    · exact h1.2.1
  have hsm : ∀ i o', (h.new o).get i = some o' → i = h.next → o' = o := fun i o' hi e => by
    rcases hget i o' hi with h1 | h1 | h1
    · exact h1.2.1
    · exact absurd e h1.1
    · have := hr.small _ _ h1.2.1
      exact absurd (e ▸ this) h1.2.2
  have hsz := hb.size
  refine ⟨⟨fun i o' hi => ?_, fun i o' q hi hq => ?_, fun i j o1 o2 q1 q2 h1 h2 h3 h4 he => ?_, fun i q hq => ?_, fun i o' hi => hr.top_new _ hi⟩, hle, fun i q hq => ?_, by simp, hsz, fun b hlt _ => hb.block b hlt, fun i o' q hi hq => ?_, fun i hi _ => by rw [AH.get_new, if_neg (fun e => Nat.lt_irrefl _ (e.1 ▸ hi))], hb.os, hb.tape, hb.output, AH.froz_new _ _⟩
  · rcases hget i o' hi with h1 | h1 | h1
    · omega
    · exact hr.small _ _ h1.2
    · exact hr.small _ _ h1.2.1
  · rcases hset i q hq with ⟨e, rfl⟩ | h1
    · rw [hsm i o' hi e]; exact ho
    · have e : i ≠ h.next := fun e => by rw [e, hr.fresh] at h1; cases h1
      exact ((hr.live i o' q (hne i o' hi e) h1).mono hle).same (hb.block _ (hr.dom _ _ h1).2)
  · rcases hset i q1 h3 with ⟨e, rfl⟩ | h5 <;> rcases hset j q2 h4 with ⟨e', rfl⟩ | h6
    · exact e.trans e'.symm
    · exact absurd (hr.dom _ _ h6).2 (by omega)
    · exact absurd (hr.dom _ _ h5).2 (by omega)
    · have e : i ≠ h.next := fun e => by rw [e, hr.fresh] at h5; cases h5
      have e' : j ≠ h.next := fun e => by rw [e, hr.fresh] at h6; cases h6
      exact hr.inj i j o1 o2 q1 q2 (hne i o1 h1 e) (hne j o2 h2 e') h5 h6 he
  · rcases hset i q hq with ⟨e, rfl⟩ | h1
    · simp [e, hp2]
    · have := hr.dom _ _ h1
      simp
      omega
  · rcases hset i q hq with ⟨e, rfl⟩ | h1
    · exact .inr (by simp [e])
    · exact .inl h1
  · rcases hset i q hq with ⟨e, rfl⟩ | h1
    · exact .inl hp
    · have e : i ≠ h.next := fun e => by rw [e, hr.fresh] at h1; cases h1
      exact .inr ⟨i, o', q, hne i o' hi e, h1, rfl⟩

/-- A function whose result is plain: by its contract. -/
theorem ex_plain {f : Nat} {g : ExT} (hc : Coded P f)
    (h : ∀ xs h k x r (args : Array Value) w, g xs h k = some x → Rel P r h w → VRs r xs args.toList → ∃ v v', k v h = some x ∧ VR r v v' ∧ Calls P f args w fun e w' => e = .returned v' ∧ Below w.heap.size w w') : ExOk P f g := by
  intro xs h1 k x r args w hf hr hx
  obtain ⟨v, v', h2, h3, h4⟩ := h xs h1 k x r args w hf hr hx
  exact ⟨hc, callsIn_wide.2 (h4.mono fun e w' ⟨he, hb⟩ => ⟨v, v', h1, r, he, h2, h3, .below hr hb⟩)⟩

theorem closed_yesX {X : Nat → Option (Bx ExT)} (hX : ∀ f g, X f = some g → ExOk P f g.f) (hm : P.follows .mixedOrders = true) {j f : Nat} (hk : (callX P X j).st f [] ⟨.nil, 0⟩ yesK = some .yes) (w : World) : Calls P f #[] w fun e w' => e = .returned (.bool true) ∧ Below w.heap.size w w' := by
  obtain ⟨-, h⟩ := (callX_ok hX hm j).st f [] _ _ _ _ #[] w hk (rel_none w) .nil
  refine callsIn_wide.1 (CallsIn.mono h fun e w' he => ?_)
  obtain ⟨v, v', h', s, rfl, h1, h2, h3⟩ := he
  have h1 : ifB (Nat.beq v.tag 1) (ifB (Nat.beq v.a 1) (some RV.yes) none) none = some .yes := h1
  obtain ⟨t1, h1⟩ := ifB_some h1
  obtain ⟨t2, -⟩ := ifB_some h1
  obtain ⟨b, rfl, h4⟩ := h2.inv1 (beq_of t1)
  have : b = true := by
    rw [beq_of t2] at h4
    cases b with
    | true => rfl
    | false => cases h4
  subst this
  exact ⟨rfl, h3.os, h3.tape, h3.output, h3.size, fun k hk => h3.frame k hk fun i o p hi => by rw [AH.get_nil] at hi; cases hi⟩
end
end Go.Proofs.YtfkdkbekmimhoaaGreatDoor
/- The machine for closed runs: what some functions of the library and of package names yield (definitions; their contracts are not here yet). -/
namespace Go.Proofs.YtfkdkbekmimhoaaGreatDoor
open Go.RowKit

noncomputable def cntL (c : Nat) (s : List UInt8) : Nat := List.rec (motive := fun _ => Nat) 0 (fun a _ n => ifB (Nat.beq a.toNat c) (Nat.succ n) n) s
/-- strings.Count of a text of one byte. -/
noncomputable def countX : ExT := fun xs h k => ifB (Nat.beq xs.length 2) (nthK none xs 0 fun s => nthK none xs 1 fun t => ifB (Nat.beq s.tag 2) (ifB (Nat.beq t.tag 2) (ifB (Nat.beq t.s.length 1) (ifB (Nat.ble s.s.length 1000000) (snthK none t.s 0 fun c => k (.int 0 (Int.ofNat (cntL c.toNat s.s))) h) none) none) none) none) none
noncomputable def repL (n : Nat) (s : List UInt8) : List UInt8 := Nat.rec (motive := fun _ => List UInt8) [] (fun _ r => s ++ r) n
/-- strings.Repeat. -/
noncomputable def repeatX : ExT := fun xs h k => ifB (Nat.beq xs.length 2) (nthK none xs 0 fun s => nthK none xs 1 fun n => ifB (Nat.beq s.tag 2) (ifB (Nat.beq n.tag 0) (ifB (Nat.beq n.a 0) (natK none n.i fun n => ifB (Nat.ble (s.s.length * n) 1000000) (ifB (Nat.ble n 1000000) (k (.str (repL n s.s)) h) none) none) none) none) none) none
/-- strings.Join. -/
noncomputable def joinGo (sep : List UInt8) : List AV → (List UInt8 → R) → R :=
  fun l => List.rec (motive := fun _ => (List UInt8 → R) → R) (fun k => k []) (fun a t ih k => ifB (Nat.beq a.tag 2) (List.rec (motive := fun _ => R) (k a.s) (fun _ _ _ => ih fun r => k (a.s ++ (sep ++ r))) t) none) l
noncomputable def joinX : ExT := fun xs h k => ifB (Nat.beq xs.length 2) (nthK none xs 0 fun l => nthK none xs 1 fun sep => ifB (Nat.beq l.tag 4) (ifB (Nat.beq sep.tag 2) (ifB (Nat.beq l.a 0) (k (.str []) h) (optK none (h.get l.b) fun o => ifB (Nat.beq o.kind 0) (ifB (Nat.ble (l.c + l.d) o.cs.length) (ifB (Nat.ble l.d 1000000) (joinGo sep.s ((o.cs.drop l.c).take l.d) fun s => ifB (Nat.ble s.length 1000000) (k (.str s) h) none) none) none) none)) none) none) none
noncomputable def insL (a : Nat) (l : List Nat) : List Nat := List.rec (motive := fun _ => List Nat) [a] (fun b t r => ifB (Nat.ble a b) (a :: b :: t) (b :: r)) l
noncomputable def valsGo (l : List ME) : List Nat → (List Nat → R) → R :=
  List.rec (motive := fun _ => List Nat → (List Nat → R) → R) (fun acc k => k acc) (fun e t ih acc k => ifB (Nat.beq e.key.tag 2) (ifB (t.all fun f => !Nat.beq f.born e.born) (ifB (Nat.beq e.val.tag 0) (ifB (Nat.beq e.val.a 0) (natK none e.val.i fun n => ih (insL n acc) k) none) none) none) none) l
noncomputable def scopeGo (h : AH) (n : Nat) : AV → List Nat → (List Nat → R) → R :=
  Nat.rec (motive := fun _ => AV → List Nat → (List Nat → R) → R) (fun _ _ _ => none) (fun _ ih p acc k => ifB (Nat.beq p.tag 3) (ifB (Nat.beq p.a 0) (k acc) (optK none (h.get p.b) fun o => ifB (Nat.beq o.kind 0) (nthK none o.cs p.c fun par => nthK none o.cs (p.c + 1) fun m => ifB (Nat.beq m.tag 5) (ifB (Nat.beq m.a 1) (optK none (h.get m.b) fun q => ifB (Nat.beq q.kind 1) (valsGo q.es acc fun acc => ih par acc k) none) none) none) none)) none) n
/-- The scopes' names (package names: all), in order. e: the type int. -/
noncomputable def scopeX (e : Nat) : ExT := fun xs h k => ifB (Nat.beq xs.length 1) (nthK none xs 0 fun p => scopeGo h 1000 p [] fun l => ifB (Nat.ble l.length 1000000) (List.rec (motive := fun _ => R) (k .snil h) (fun _ _ _ => k (.slc h.next 0 l.length capU) (h.new (.arr (l.map fun n => .int 0 (Int.ofNat n)) e))) l) none) none
/-- slices.Grow of a nil slice. e: the type of an element. -/
noncomputable def growX (e : Nat) : ExT := fun xs h k => ifB (Nat.beq xs.length 2) (nthK none xs 0 fun s => nthK none xs 1 fun m => ifB (Nat.beq s.tag 4) (ifB (Nat.beq s.a 0) (ifB (Nat.beq m.tag 0) (ifB (Nat.beq m.a 0) (natK none m.i fun n => ifB (Nat.ble 1 n) (ifB (Nat.ble n 1000) (k (.slc h.next 0 0 capU) (h.new (.arr [] e))) none) none) none) none) none) none) none
end Go.Proofs.YtfkdkbekmimhoaaGreatDoor
