/- TemplatesUndoes: an edit, and then the edit that undoes it, gives the tree. Part 4 of 14. -/
import Derived.Test.YtfkdkbekmimhoaaGreatDoorUnd03
/- The machine for closed runs: a region that draws its order: the walk. -/
namespace Go.Proofs.YtfkdkbekmimhoaaGreatDoor

/-- The items of a region. -/
structure AllOk (ops : Array Oper) (L : Nat → Bool) (all : List PS) : Prop where
  op : ∀ p ∈ all, L p.i = false → ops[p.i]? = some p.o
  late : ∀ p ∈ all, L p.i = true → clsO p.o.op = 0
  uniq : ∀ p ∈ all, ∀ q ∈ all, p.i = q.i → p = q
  ahead : ∀ D : Nat → Bool, (∀ i o, ops[i]? = some o → D i = true → Ahead D o) → ∀ p ∈ all, Ahead D p.o → ∀ j, Nat.testBit p.m j = true → D j = true
  full : ∀ i o, ops[i]? = some o → ∃ p ∈ all, p.i = i
theorem allOk (ops : Array Oper) : AllOk ops (fun _ => false) (itemsGo 0 [] ops.toList) := by
  refine ⟨fun p hp _ => ?_, (fun p hp e => by cases e), fun p hp q hq => items_inj _ _ _ p q hp hq, fun D hD p hp => ?_, fun i o ho => ?_⟩
  · obtain ⟨⟨j, h1, h2⟩, -⟩ := items_ok (D := fun _ => false) ops.toList 0 [] rfl (fun i m h => by simp at h) (fun _ _ _ h => by cases h) p hp
    rw [h1, Nat.zero_add]
    simpa using h2
  · exact (items_ok (D := D) ops.toList 0 [] rfl (fun i m h => by simp at h) (fun j o h1 h2 => hD j o (by simpa using h1) (by simpa using h2)) p hp).2
  · obtain ⟨p, h1, h2, -⟩ := items_all ops.toList 0 [] i o (by simpa using ho)
    exact ⟨p, h1, by omega⟩

theorem Marks.far {m : Nat} {w w' : World} (hw : ∀ b, b < w.heap.size → w'.heap[b]? = w.heap[b]?) : ∀ {ds : List Deferred}, Marks m w ds → Marks m w' ds
  | _, .nil => .nil
  | _, .cons h0 h1 h2 t => .cons h0 ((hw _ (Array.getElem?_eq_some_iff.1 h1).1).trans h1) h2 (Marks.far hw t)
theorem LPost.after {P : Program} {r0 r s : Ren} {h0 h : AH} {w0 w w' : World} {j : Nat} (hp : Post P r0 h0 w0 r h w) (hl : LPost P r h w j s w') (h1 : h0.next ≤ j) (h2 : j < h.next) : Post P r0 h0 w0 s h w' := by
  refine ⟨hl.rel, Ren.le_trans hp.ext hl.ext, fun i q hq => ?_, hp.nxt, Nat.le_trans hp.size hl.size, fun b hb hno => ?_, fun i o q hi hq => ?_, hp.keep, hl.os.trans hp.os, hl.tape.trans hp.tape, hl.output.trans hp.output, hp.froz⟩
  · rcases hl.new i q hq with h3 | ⟨rfl, -⟩
    · exact hp.new i q h3
    · exact .inr ⟨h1, h2⟩
  · rw [hl.frame b (Nat.lt_of_lt_of_le hb hp.size)]
    exact hp.frame b hb hno
  · rcases hl.new i q hq with h3 | ⟨-, h3⟩
    · exact hp.own i o q hi h3
    · exact .inl (Nat.le_trans hp.size h3)

section
variable {P : Program} {n m : Nat} {call : CallT} {ops : Array Oper} {L : Nat → Bool} {all pre l done : List PS} {c : Nat} {D : Nat → Bool} {ids : Nat → Option Nat} {r0 r : Ren} {h0 h : AH} {w0 w : World} {t : Fr} {a : Act} {k : KC} {x : RV} {ro : Option Nat} {Q : Exit → Act → World → Prop} {K : Act → World → Prop}

theorem eval_tmp (a : Act) (d : Nat) : a.eval (.tmp d) = a.tmps.getD d undef := rfl

/-- What an operation looks at is as the machine has it, when all that must lie ahead is done. -/
theorem Mid.seen (hm : Mid P n m ops L pre D ids r0 h0 w0 r t h a w) (hp : Pre ops n all pre c) {p : PS} (hpa : p ∈ all) (hah : ∀ j, Nat.testBit p.m j = true → D j = true) {ts : Fr} (hts : ∀ d ∈ seenBy ops p.o, d < 512 → ts.get d = t.get d)
    (hne : ∀ q ∈ pre, D q.i = false → p.i = q.i → ∀ d, q.o.dst = some d → d ∉ seenBy ops p.o) : SeenOk r ts a (seenBy ops p.o) := by
  intro d hd
  by_cases hd5 : d < 512
  · rw [ev_get ts hd5, hts d hd hd5, eval_tmp]
    refine hm.fr d hd5 fun q hq hD e => ?_
    have hsoft : clsO q.o.op < 2 := Classical.not_not.1 fun hc => by
      rw [hm.hard q hq hc] at hD; cases hD
    rcases hp.soft q hq hsoft p hpa with e1 | e1 | e1
    · exact hne q hq hD e1 d e hd
    · rw [e, names_seen hd] at e1; cases e1
    · rw [hah _ e1] at hD; cases hD
  · rw [ev_big ts hd5]
    exact .junk _

def withI (D : Nat → Bool) (i : Nat) : Nat → Bool := fun j => D j || Nat.beq j i
theorem withI_self (D : Nat → Bool) (i : Nat) : withI D i i = true := by simp [withI]
theorem withI_old {D : Nat → Bool} {i j : Nat} (h : D j = true) : withI D i j = true := by simp [withI, h]
theorem withI_false {D : Nat → Bool} {i j : Nat} (h : withI D i j = false) : D j = false ∧ j ≠ i := by
  simp only [withI, Bool.or_eq_false_iff] at h
  exact ⟨h.1, fun e => by rw [e, Nat.beq_refl] at h; cases h.2⟩
theorem withI_true {D : Nat → Bool} {i j : Nat} (h : withI D i j = true) : D j = true ∨ j = i := by
  simp only [withI, Bool.or_eq_true] at h
  exact h.imp id beq_of

/-- What the step of one that was reckoned leaves. -/
structure Stp (r : Ren) (w : World) (id : Option Nat) (r' : Ren) (w' : World) : Prop where
  ext : r.le r'
  size : w.heap.size ≤ w'.heap.size
  frame : ∀ b, b < w.heap.size → w'.heap[b]? = w.heap[b]?
  new : ∀ j pl, r' j = some pl → r j = some pl ∨ (id = some j ∧ w.heap.size ≤ pl.blk)
theorem Stp.refl (r : Ren) (w : World) (id : Option Nat) : Stp r w id r w := ⟨r.le_refl, Nat.le_refl _, fun _ _ => rfl, fun _ _ h => .inl h⟩
/-- An operation that was reckoned is done. -/
theorem Mid.pick (hm : Mid P n m ops L pre D ids r0 h0 w0 r t h a w) (hp : Pre ops n all pre c) (ha : AllOk ops L all) {p : PS} (hpp : p ∈ pre) (hL : L p.i = false) (hD : D p.i = false) (hah : ∀ j, Nat.testBit p.m j = true → D j = true)
    (hK : ∀ r' a' w', Mid P n m ops L pre (withI D p.i) ids r0 h0 w0 r' t h a' w' → Stp r w (ids p.i) r' w' → K a' w') : wpOpIn (fw ro) 0 P ops Q p.i K a w := by
  have hpa := hp.mem p hpp
  have hsoft : clsO p.o.op < 2 := Classical.not_not.1 fun hc => by
    rw [hm.hard p hpp hc] at hD; cases hD
  obtain ⟨ts, v, h1, h2, h3⟩ := (hm.lag p hpp hD).resolve_left (by rw [hL]; exact Bool.false_ne_true)
  have hseen : SeenOk r ts a (seenBy ops p.o) := hm.seen hp hpa hah h1 fun q hq hDq e d hd => by
    rw [ha.uniq p hpa q (hp.mem q hq) e]
    have hs : clsO q.o.op < 2 := Classical.not_not.1 fun hc => by
      rw [hm.hard q hq hc] at hDq; cases hDq
    exact hp.self q hq hs d hd
  have fr' : ∀ {s : Ren} {v' : Value}, r.le s → VR s v v' → ∀ i, i < 512 → (∀ q ∈ pre, withI D p.i q.i = false → q.o.dst ≠ some i) → VR s (t.get i) ((a.put p.o.dst v').tmps.getD i undef) := by
    intro s v' hle hv i hi hno
    by_cases e : p.o.dst = some i
    · rw [h2 i e, e, put_eq (by rw [hm.sz]; exact hp.dst p hpp i e)]
      exact hv
    · rw [put_ne e]
      refine (hm.fr i hi fun q hq hDq e2 => ?_).mono hle
      by_cases e3 : q.i = p.i
      · rw [ha.uniq q (hp.mem q hq) p hpa e3] at e2
        exact e e2
      · refine hno q hq ?_ e2
        simp only [withI, hDq, Bool.false_or]
        cases hb : Nat.beq q.i p.i with
        | false => rfl
        | true => exact absurd (beq_of hb) e3
  rcases h3 with ⟨-, h3⟩ | ⟨-, h3⟩ | ⟨j, ob, -, h4, h5, h6, h7, h8, h9⟩
  · refine h3 ro Q K r a w h.next hm.post.rel hseen fun v' hv => hK r _ _ ⟨put_size.trans hm.sz, hm.le, by rw [put_defers]; exact hm.marks, fun q hq hc => withI_old (hm.hard q hq hc), fun i hi => ?_, fr' r.le_refl hv, fun q hq hDq => hm.lag q hq (withI_false hDq).1, fun q hq q' hq' hDq hDq' => hm.inj q hq q' hq' (withI_false hDq).1 (withI_false hDq').1, fun q hq hDq => hm.low q hq (withI_false hDq).1, hm.post⟩ (Stp.refl _ _ _)
    rcases withI_true hi with e | rfl
    · exact hm.sub i e
    · exact ⟨p, hpp, rfl⟩
  · refine h3 ro Q K r a w hseen fun v' hv => hK r _ _ ⟨put_size.trans hm.sz, hm.le, by rw [put_defers]; exact hm.marks, fun q hq hc => withI_old (hm.hard q hq hc), fun i hi => ?_, fr' r.le_refl hv, fun q hq hDq => hm.lag q hq (withI_false hDq).1, fun q hq q' hq' hDq hDq' => hm.inj q hq q' hq' (withI_false hDq).1 (withI_false hDq').1, fun q hq hDq => hm.low q hq (withI_false hDq).1, hm.post⟩ (Stp.refl _ _ _)
    rcases withI_true hi with e | rfl
    · exact hm.sub i e
    · exact ⟨p, hpp, rfl⟩
  · refine h5 ro Q K r a w h hm.post.rel h6 h8 h9 hseen fun v' s w' hv hl => hK s _ _ ⟨put_size.trans hm.sz, hm.le, by rw [put_defers]; exact hm.marks.far hl.frame, fun q hq hc => withI_old (hm.hard q hq hc), fun i hi => ?_, fr' hl.ext hv, fun q hq hDq => ?_, fun q hq q' hq' hDq hDq' => hm.inj q hq q' hq' (withI_false hDq).1 (withI_false hDq').1, fun q hq hDq => hm.low q hq (withI_false hDq).1, hl.after hm.post h7 h8⟩ ⟨hl.ext, hl.size, hl.frame, fun j' pl e => (hl.new j' pl e).imp id fun e2 => ⟨by rw [e2.1]; exact h4, e2.2⟩⟩
    · rcases withI_true hi with e | rfl
      · exact hm.sub i e
      · exact ⟨p, hpp, rfl⟩
    · obtain ⟨hDq, hne⟩ := withI_false hDq
      rcases hm.lag q hq hDq with hLq | ⟨ts', v2, k1, k2, k3⟩
      · exact .inl hLq
      refine .inr ⟨ts', v2, k1, k2, ?_⟩
      rcases k3 with k3 | k3 | ⟨j', ob', k3, k4, k5, k6, k7, k8, k9⟩
      · exact .inl k3
      · exact .inr (.inl k3)
      · refine .inr (.inr ⟨j', ob', k3, k4, k5, ?_, k7, k8, k9⟩)
        cases hs : s j' with
        | none => rfl
        | some pl =>
          rcases hl.new j' pl hs with e | ⟨e, -⟩
          · rw [k6] at e; cases e
          · subst e
            exact absurd (hm.inj q hq p hpp hDq hD _ k4 h4) hne

theorem again_ok {rest : Bx CodeT} : ∀ {L : List PS} {t : Fr} {h : AH}, (againB P ops rest L).f call t h k = some x → rest.f call t h k = some x ∧ ∀ q ∈ L, ∃ v h1, (guardO P ops q.o).f t h (fun v h => some (.val v h)) = some (.val v h1) ∧ ∀ d, q.o.dst = some d → v = (evB (.tmp d)).f t
  | [], t, h, hf => ⟨hf, fun _ hq => by cases hq⟩
  | q :: L, t, h, hf => by
    have hf : optK none ((guardO P ops q.o).f t h fun v h => some (.val v h)) (fun p => RV.rec (motive := fun _ => R) none (fun v _ => ifB ((eqT q.o.dst).f t v) ((againB P ops rest L).f call t h k) none) p) = some x := hf
    obtain ⟨v, h1, h2, h3⟩ := optV_some hf
    obtain ⟨h4, h5⟩ := ifB_some h3
    obtain ⟨h6, h7⟩ := again_ok h5
    refine ⟨h6, fun q' hq' => ?_⟩
    rcases List.mem_cons.1 hq' with rfl | hq'
    · refine ⟨v, h1, h2, fun d hd => ?_⟩
      rw [hd] at h4
      exact avEq_ok h4
    · exact h7 q' hq'

/-- One that does more. -/
theorem Mid.hardStep (hc : CallOk P call) (hm : Mid P n m ops L pre D ids r0 h0 w0 r t h a w) (hp : Pre ops n all pre c) (ha : AllOk ops L all) {p : PS} (hpa : p ∈ all) (hk : okP ops n all c (p :: l) = true) (hh : ¬ clsO p.o.op < 2) (hah : ∀ j, Nat.testBit p.m j = true → D j = true)
    (hdone : ∀ q, q ∈ done ↔ q ∈ pre ∧ clsO q.o.op = 0) (hf : (planB P n ops done (p :: l)).f call t h k = some x)
    (hK : ∀ r' t' h' a' w', Mid P n m ops L (p :: pre) (withI D p.i) ids r0 h0 w0 r' t' h' a' w' → (planB P n ops done l).f call t' h' k = some x → Post P r h w r' h' w' → (∃ v, t' = (putF n p.o.dst).f t v) → K a' w') : wpOpIn (fw ro) 0 P ops Q p.i K a w := by
  obtain ⟨k1, k2, k3, k4, k5, k6⟩ := okP_cons hk
  have hnp : ∀ q ∈ pre, q.i ≠ p.i := fun q hq e => by
    have := (hp.bits p.i).2 ⟨q, hq, e⟩
    rw [this] at k2
    cases k2
  have hseen : SeenOk r t a (seenBy ops p.o) := hm.seen hp hpa hah (fun _ _ _ => rfl) fun q hq _ e => absurd e.symm (hnp q hq)
  have hf : (stepB P n ops p.o (againB P ops (planB P n ops done l) (done.filter fun q => !Nat.testBit p.m q.i))).f call t h k = some x := by
    have e : planB P n ops done (p :: l) = stepB P n ops p.o (againB P ops (planB P n ops done l) (done.filter fun q => !Nat.testBit p.m q.i)) := by
      rw [planB]
      split
      · omega
      · omega
      · rfl
    rw [← e]
    exact hf
  have hLp : L p.i = false := by
    cases hb : L p.i with
    | false => rfl
    | true => exact absurd (ha.late p hpa hb) (by omega)
  refine step_ok hc (ha.op p hpa hLp) hf hm.post.rel (seen_ev hseen) (fun j want d hg hd => hseen d ?_) fun v v' s h' w' h1 h2 h3 => ?_
  · unfold seenBy
    rw [hg]
    simp only [hd]
    simp
  obtain ⟨h4, h5⟩ := again_ok h1
  refine hK s _ h' _ w' ⟨put_size.trans hm.sz, hm.le, by rw [put_defers]; exact hm.marks.step h3 hm.post.rel, fun q hq hc => ?_, fun i hi => ?_, fun i hi hno => ?_, fun q hq hDq => ?_, fun q hq q' hq' hDq hDq' => ?_, fun q hq hDq j hj => ?_, hm.post.trans h3⟩ h4 h3 ⟨v, rfl⟩
  · rcases List.mem_cons.1 hq with rfl | hq
    · exact withI_self _ _
    · exact withI_old (hm.hard q hq hc)
  · rcases withI_true hi with e | rfl
    · obtain ⟨q, e1, e2⟩ := hm.sub i e
      exact ⟨q, List.mem_cons_of_mem _ e1, e2⟩
    · exact ⟨p, List.mem_cons_self, rfl⟩
  · refine put_ok hm.le hm.sz hi h2 ?_ fun e => .inr (k3 i e)
    by_cases e : p.o.dst = some i
    · exact .inl e
    · refine .inr ((hm.fr i hi fun q hq hDq => hno q (List.mem_cons_of_mem _ hq) ?_).mono h3.ext)
      simp only [withI, hDq, Bool.false_or]
      cases hb : Nat.beq q.i p.i with
      | false => rfl
      | true => exact absurd (beq_of hb) (hnp q hq)
  · obtain ⟨hDq, hne⟩ := withI_false hDq
    have hq : q ∈ pre := by
      rcases List.mem_cons.1 hq with rfl | hq
      · exact absurd rfl hne
      · exact hq
    have hnb : Nat.testBit p.m q.i = false := by
      cases hb : Nat.testBit p.m q.i with
      | false => rfl
      | true => rw [hah _ hb] at hDq; cases hDq
    have hnm : namesT ops p.o.dst q = false := by
      rcases (k5 hh).2 q (hp.mem q hq) with e | e | e | e
      · exact absurd e hne
      · exact e
      · rw [hp.sub q hq _ e] at k2; cases k2
      · rw [hnb] at e; cases e
    have keep : ∀ d, d < 512 → namesT ops (some d) q = true → ((putF n p.o.dst).f t v).get d = t.get d := fun d hd hn => by
      refine putF_ne hm.le hd fun e => ?_
      rw [e, hn] at hnm
      cases hnm
    by_cases hLq : L q.i = true
    · exact .inl hLq
    have hLq : L q.i = false := by simpa using hLq
    obtain ⟨ts, u, k7, k8, k9⟩ := (hm.lag q hq hDq).resolve_left (by rw [hLq]; exact Bool.false_ne_true)
    have old : ∀ d ∈ seenBy ops q.o, d < 512 → ts.get d = ((putF n p.o.dst).f t v).get d := fun d hd hd5 => by
      rw [keep d hd5 (names_seen hd)]
      exact k7 d hd hd5
    have old2 : ∀ d, q.o.dst = some d → ((putF n p.o.dst).f t v).get d = u := fun d hd => by
      rw [keep d (Nat.lt_of_lt_of_le (hp.dst q hq d hd) hm.le) (names_dst hd)]
      exact k8 d hd
    rcases k9 with ⟨e0, -⟩ | k9 | ⟨j, ob, e1, e2, e3, e4, e5, e6, e7⟩
    · obtain ⟨v1, g1, m1, m2⟩ := h5 q (List.mem_filter.2 ⟨(hdone q).2 ⟨hq, e0⟩, by simp [hnb]⟩)
      refine .inr ⟨_, v1, fun _ _ _ => rfl, fun d hd => ?_, .inl ⟨e0, lag_plain (ha.op q (hp.mem q hq) hLq) e0 m1⟩⟩
      rw [m2 d hd, ev_get _ (Nat.lt_of_lt_of_le (hp.dst q hq d hd) hm.le)]
    · exact .inr ⟨ts, u, old, old2, .inr (.inl k9)⟩
    · refine .inr ⟨ts, u, old, old2, .inr (.inr ⟨j, ob, e1, e2, e3, ?_, e5, Nat.lt_of_lt_of_le e6 h3.nxt, fun o' ho => e7 o' ?_⟩)⟩
      · cases hs : s j with
        | none => rfl
        | some pl =>
          rcases h3.new j pl hs with e | e
          · rw [e4] at e; cases e
          · omega
      · rw [← h3.keep j e6 e4]
        exact ho
  · obtain ⟨hDq, hne⟩ := withI_false hDq
    obtain ⟨hDq', hne'⟩ := withI_false hDq'
    have hq : q ∈ pre := (List.mem_cons.1 hq).elim (fun e => absurd (by rw [e]) hne) id
    have hq' : q' ∈ pre := (List.mem_cons.1 hq').elim (fun e => absurd (by rw [e]) hne') id
    exact hm.inj q hq q' hq' hDq hDq'
  · obtain ⟨hDq, hne⟩ := withI_false hDq
    have hq : q ∈ pre := (List.mem_cons.1 hq).elim (fun e => absurd (by rw [e]) hne) id
    exact Nat.lt_of_lt_of_le (hm.low q hq hDq j hj) h3.nxt

/-- Between two operations that do more. -/
def Still (P : Program) (n m : Nat) (call : CallT) (ops : Array Oper) (L : Nat → Bool) (X : (Nat → Bool) → List PS → (Nat → Option Nat) → Ren → Fr → AH → World → Prop) (all : List PS) (k : KC) (x : RV) (r0 : Ren) (h0 : AH) (w0 : World) (D : Nat → Bool) (a : Act) (w : World) : Prop :=
  ∃ pre l done c ids r t h, Mid P n m ops L pre D ids r0 h0 w0 r t h a w ∧ X D pre ids r t h w ∧ Pre ops n all pre c ∧ okP ops n all c l = true ∧ (∀ p ∈ l, p ∈ all) ∧ (∀ q, q ∈ done ↔ q ∈ pre ∧ clsO q.o.op = 0) ∧ (planB P n ops done l).f call t h k = some x ∧ ∀ p l', l = p :: l' → ¬ clsO p.o.op < 2

/-- What stands beside, whatever is reckoned. -/
def Keeps (P : Program) (n m : Nat) (ops : Array Oper) (L : Nat → Bool) (X : (Nat → Bool) → List PS → (Nat → Option Nat) → Ren → Fr → AH → World → Prop) (all : List PS) (r0 : Ren) (h0 : AH) (w0 : World) (D : Nat → Bool) (r : Ren) (a : Act) (w : World) : Prop :=
  ∀ (pre : List PS) (c : Nat) (ids : Nat → Option Nat) (t : Fr) (h : AH) (p : PS) (v : AV) (h1 : AH) (id : Option Nat), Mid P n m ops L pre D ids r0 h0 w0 r t h a w → Pre ops n all pre c → p ∈ all → Nat.testBit c p.i = false → clsO p.o.op < 2 → (h1 = h ∨ ∃ ob, h1 = h.new ob) → (id = none ∨ id = some h.next ∧ h.next < h1.next) → X D pre ids r t h w → X D (p :: pre) (fun i => if i = p.i then id else ids i) r ((putF n p.o.dst).f t v) h1 w
theorem settle {X : (Nat → Bool) → List PS → (Nat → Option Nat) → Ren → Fr → AH → World → Prop} (ha : AllOk ops L all) (hX : Keeps P n m ops L X all r0 h0 w0 D r a w) : ∀ (l : List PS) {pre done : List PS} {c : Nat} {ids : Nat → Option Nat} {t : Fr} {h : AH}, Mid P n m ops L pre D ids r0 h0 w0 r t h a w → X D pre ids r t h w → Pre ops n all pre c → okP ops n all c l = true → (∀ p ∈ l, p ∈ all) → (∀ q, q ∈ done ↔ q ∈ pre ∧ clsO q.o.op = 0) → (planB P n ops done l).f call t h k = some x → Still P n m call ops L X all k x r0 h0 w0 D a w
  | [], pre, done, c, ids, t, h, hm, hx, hp, hk, hl, hd, hf => ⟨pre, [], done, c, ids, r, t, h, hm, hx, hp, hk, hl, hd, hf, fun _ _ e => by cases e⟩
  | p :: l, pre, done, c, ids, t, h, hm, hx, hp, hk, hl, hd, hf => by
    have hpa := hl p List.mem_cons_self
    by_cases hc : clsO p.o.op < 2
    · rcases Nat.lt_or_ge (clsO p.o.op) 1 with h1 | h1
      · have hc0 : clsO p.o.op = 0 := by omega
        have e : planB P n ops done (p :: l) = ⟨plainC (guardO P ops p.o).f (putF n p.o.dst).f (planB P n ops (p :: done) l).f⟩ := by
          rw [planB, hc0]; rfl
        rw [e] at hf
        have hf : optK none ((guardO P ops p.o).f t h fun v h => some (.val v h)) (fun q => RV.rec (motive := fun _ => R) none (fun v _ => (planB P n ops (p :: done) l).f call ((putF n p.o.dst).f t v) h k) q) = some x := hf
        obtain ⟨v, h2, h3, h4⟩ := optV_some hf
        refine settle ha hX l (hm.soft (id := none) hp hpa hk ha.uniq hc (.inl rfl) (.inl rfl) (by
          cases hb : L p.i with
          | true => exact .inl rfl
          | false => exact .inr (.inl ⟨hc0, lag_plain (ha.op p hpa hb) hc0 h3⟩))) (hX _ _ _ _ _ _ _ _ none hm hp hpa (okP_cons hk).2.1 hc (.inl rfl) (.inl rfl) hx) (hp.add hpa hk) (okP_cons hk).2.2.2.2.2 (fun q hq => hl q (List.mem_cons_of_mem _ hq)) (fun q => ?_) h4
        constructor
        · intro hq
          rcases List.mem_cons.1 hq with rfl | hq
          · exact ⟨List.mem_cons_self, hc0⟩
          · exact ⟨List.mem_cons_of_mem _ ((hd q).1 hq).1, ((hd q).1 hq).2⟩
        · rintro ⟨hq, e2⟩
          rcases List.mem_cons.1 hq with rfl | hq
          · exact List.mem_cons_self
          · exact List.mem_cons_of_mem _ ((hd q).2 ⟨hq, e2⟩)
      · have hc1 : clsO p.o.op = 1 := by omega
        have e : planB P n ops done (p :: l) = ⟨softC (guardO P ops p.o).f (putF n p.o.dst).f (planB P n ops done l).f⟩ := by
          rw [planB, hc1]; rfl
        rw [e] at hf
        have hf : optK none ((guardO P ops p.o).f t h fun v h => some (.val v h)) (fun q => RV.rec (motive := fun _ => R) none (fun v h => (planB P n ops done l).f call ((putF n p.o.dst).f t v) h k) q) = some x := hf
        obtain ⟨v, h2, h3, h4⟩ := optV_some hf
        have hdn : ∀ q, q ∈ done ↔ q ∈ p :: pre ∧ clsO q.o.op = 0 := fun q => by
          rw [hd q]
          constructor
          · rintro ⟨h5, h6⟩
            exact ⟨List.mem_cons_of_mem _ h5, h6⟩
          · rintro ⟨h5, h6⟩
            rcases List.mem_cons.1 h5 with rfl | h5
            · omega
            · exact ⟨h5, h6⟩
        have hnx : h0.next ≤ h.next := hm.post.nxt
        have hLp : L p.i = false := by
          cases hb : L p.i with
          | false => rfl
          | true => exact absurd (ha.late p hpa hb) (by omega)
        rcases lag_late (ha.op p hpa hLp) hc1 h3 with ⟨rfl, h5⟩ | ⟨ob, rfl, h5⟩
        · exact settle ha hX l (hm.soft (id := none) hp hpa hk ha.uniq hc (.inl rfl) (.inl rfl) (.inr (.inr (.inl ⟨hc1, h5⟩)))) (hX _ _ _ _ _ _ _ _ none hm hp hpa (okP_cons hk).2.1 hc (.inl rfl) (.inl rfl) hx) (hp.add hpa hk) (okP_cons hk).2.2.2.2.2 (fun q hq => hl q (List.mem_cons_of_mem _ hq)) hdn h4
        · refine settle ha hX l (hm.soft (id := some h.next) hp hpa hk ha.uniq hc (.inr ⟨ob, rfl⟩) (.inr ⟨rfl, by simp⟩) (.inr (.inr (.inr ⟨h.next, ob, hc1, rfl, h5, hm.post.rel.fresh, hnx, by simp, fun o' ho => ?_⟩)))) (hX _ _ _ _ _ _ _ _ (some h.next) hm hp hpa (okP_cons hk).2.1 hc (.inr ⟨ob, rfl⟩) (.inr ⟨rfl, by simp⟩) hx) (hp.add hpa hk) (okP_cons hk).2.2.2.2.2 (fun q hq => hl q (List.mem_cons_of_mem _ hq)) hdn h4
          rw [AH.get_new] at ho
          split at ho
          · cases ho; rfl
          · have := hm.post.rel.top _ _ ho
            exact absurd this (Nat.lt_irrefl _)
    · exact ⟨pre, p :: l, done, c, ids, r, t, h, hm, hx, hp, hk, hl, hd, hf, fun p' l' e => by cases e; exact hc⟩
end
end Go.Proofs.YtfkdkbekmimhoaaGreatDoor
/- The machine for closed runs: a region that draws its order, whole. -/
namespace Go.Proofs.YtfkdkbekmimhoaaGreatDoor

/-- How many are not listed. -/
def cntF : List Bool → Nat
  | [] => 0
  | b :: l => (if b then 0 else 1) + cntF l
theorem cntF_set : ∀ (l : List Bool) (i : Nat), l[i]? = some false → cntF (l.set i true) + 1 = cntF l
  | [], i, h => by simp at h
  | b :: l, 0, h => by
    simp at h
    subst h
    simp [cntF]
    omega
  | b :: l, i + 1, h => by
    have := cntF_set l i (by simpa using h)
    simp only [List.set_cons_succ, cntF]
    omega
theorem cntF_zero : ∀ (l : List Bool), cntF l = 0 → ∀ i, i < l.length → l[i]? = some true
  | [], _, i, h => by simp at h
  | b :: l, h, 0, _ => by
    cases b with
    | true => rfl
    | false => simp [cntF] at h
  | b :: l, h, i + 1, hi => by
    have : cntF l = 0 := by unfold cntF at h; omega
    simpa using cntF_zero l this i (by simpa using hi)
theorem cntF_rep (n : Nat) : cntF (List.replicate n false) = n := by
  induction n with
  | zero => rfl
  | succ n ih => simp only [List.replicate_succ, cntF, ih]; simp; omega

section
variable {P : Program} {n : Nat} {call : CallT} {ops : Array Oper} {Q : Exit → Act → World → Prop} {md : Region.Mode} {F : Fence}

theorem all_listed (hacyc : ∀ (i : Nat) (o : Oper), ops[i]? = some o → ∀ e ∈ o.after, Region.binds md e = true → e.on < i) {listed : Array Bool} (hs : listed.size = ops.size) (hr : Region.ready md ops listed = []) : ∀ i, i < ops.size → listed.getD i true = true := by
  intro i
  induction i using Nat.strongRecOn with
  | ind i ih =>
    intro hi
    cases hl : listed.getD i true with
    | true => rfl
    | false =>
      exfalso
      have ho : ops[i]? = some ops[i] := Array.getElem?_eq_getElem hi
      have : i ∈ Region.ready md ops listed := mem_ready.2 ⟨hl, ops[i], ho, fun e he hb => by
        have h1 := hacyc i _ ho e he hb
        have h2 := ih e.on h1 (by omega)
        have h3 : e.on < listed.size := by omega
        simp [h3] at h2 ⊢
        exact h2⟩
      rw [hr] at this
      cases this
/-- Whatever order is picked: the invariant stands to the end. -/
theorem wpAny_inv (I : Array Bool → Act → World → Prop) (hacyc : ∀ (i : Nat) (o : Oper), ops[i]? = some o → ∀ e ∈ o.after, Region.binds md e = true → e.on < i)
    (hstep : ∀ listed a w i, listed.size = ops.size → I listed a w → i ∈ Region.ready md ops listed → wpOpIn F 0 P ops Q i (I (listed.setIfInBounds i true)) a w)
    (hend : ∀ listed a w, listed.size = ops.size → (∀ i, i < ops.size → listed.getD i true = true) → I listed a w → Q .normal a w) :
    ∀ (fuel : Nat) (listed : Array Bool) (a : Act) (w : World), listed.size = ops.size → cntF listed.toList ≤ fuel → I listed a w → wpAnyIn F 0 P md ops Q fuel listed a w := by
  intro fuel
  induction fuel with
  | zero =>
    intro listed a w hs hc hI
    have hall : ∀ i, i < ops.size → listed.getD i true = true := by
      intro i hi
      have := cntF_zero listed.toList (by omega) i (by simpa [hs] using hi)
      have h2 : i < listed.size := by omega
      simp [h2] at this ⊢
      exact this
    refine ⟨?_, hend listed a w hs hall hI⟩
    cases hr : Region.ready md ops listed with
    | nil => rfl
    | cons j l =>
      exfalso
      have hj : j ∈ Region.ready md ops listed := by rw [hr]; simp
      obtain ⟨h1, o, h2, -⟩ := mem_ready.1 hj
      have h3 : j < ops.size := (Array.getElem?_eq_some_iff.1 h2).1
      rw [hall j h3] at h1
      cases h1
  | succ fuel ih =>
    intro listed a w hs hc hI
    refine ⟨fun hr => hend listed a w hs (all_listed hacyc hs hr) hI, fun i hi => ?_⟩
    have h1 := (mem_ready.1 hi).1
    obtain ⟨o, h2, -⟩ := (mem_ready.1 hi).2
    have h3 : i < ops.size := (Array.getElem?_eq_some_iff.1 h2).1
    have h4 : i < listed.size := by omega
    have h5 : listed.toList[i]? = some false := by simp [h4] at h1 ⊢; exact h1
    refine wpOpIn_mono (fun a' w' hI' => ih _ a' w' (by simpa using hs) ?_ hI') (hstep listed a w i hs hI hi)
    have := cntF_set listed.toList i h5
    rw [Array.toList_setIfInBounds]
    omega

theorem withI_listed {listed : Array Bool} {i : Nat} (hi : i < listed.size) : (fun j => (listed.setIfInBounds i true).getD j false) = withI (fun j => listed.getD j false) i := by
  funext j
  unfold withI
  by_cases e : j = i
  · subst e
    simp [hi, Nat.beq_refl]
  · have hb : Nat.beq j i = false := by
      cases hb : Nat.beq j i with
      | false => rfl
      | true => exact absurd (beq_of hb) e
    simp [Array.getD_eq_getD_getElem?, Array.getElem?_setIfInBounds_ne (Ne.symm e), hb]

theorem draw1_ok {rd : Bool} (hm : P.follows .mixedOrders = true) (hc : CallOk P call) (id : Nat) (ops : Array Oper) {no : Bx CodeT} (hE : okE 0 ops.toList = true) (hno : CodeOk P n call (.region id ops true) no.f rd) : CodeOk P n call (.region id ops true) (drawB1 P n ops no).f rd := by
  intro ro m t h k x r a w hro hf hs
  unfold drawB1 at hf
  · simp only at hf
    split at hf
    · rename_i hP
      have ha := allOk ops
      generalize hall : itemsGo 0 [] ops.toList = all at hf hP ha
      have hpl : ∀ p ∈ planF ops.size 0 all, p ∈ all := fun p hp => planF_mem _ _ _ _ hp
      generalize planF ops.size 0 all = pl at hf hP hpl
      replace hP := okF_ok hP
      have hacyc : ∀ (i : Nat) (o : Oper), ops[i]? = some o → ∀ e ∈ o.after, Region.binds .any e = true → e.on < i := fun i o ho e he hb => by
        have := okE_ok 0 ops.toList hE i o (by simpa using ho) e he hb
        omega
      refine wpIn_region_any hm ?_
      let I : Array Bool → Act → World → Prop := fun listed a' w' => Still P n m call ops (fun _ => false) (fun _ _ _ _ _ _ _ => True) all k x r h w (fun j => listed.getD j false) a' w' ∧ ∀ i o, ops[i]? = some o → listed.getD i false = true → Ahead (fun j => listed.getD j false) o
      have hD0 : (fun j => (Array.replicate ops.size false).getD j false) = fun _ => false := by
        funext j
        by_cases hj : j < ops.size <;> simp [hj]
      refine wpAny_inv (md := .any) I hacyc (fun listed a' w' i hsz hI hi => ?_) (fun listed a' w' hsz hdone hI => ?_) ops.size _ a _ (by simp) (by rw [Array.toList_replicate, cntF_rep]; exact Nat.le_refl _) ⟨?_, fun i o _ hl => ?_⟩
      · -- one is picked
        obtain ⟨⟨pre, l, done, c, ids, r', t', h', k1, -, k2, k3, k4, k5, k6, k7⟩, hcl⟩ := hI
        obtain ⟨hl0, o, ho, hrd⟩ := mem_ready.1 hi
        have hlt : i < listed.size := by rw [hsz]; exact (Array.getElem?_eq_some_iff.1 ho).1
        have hDi : listed.getD i false = false := by simp [hlt] at hl0 ⊢; exact hl0
        have hah : Ahead (fun j => listed.getD j false) o := fun e he hb => hrd e he hb
        have hcl' : ∀ i' o', ops[i']? = some o' → (listed.setIfInBounds i true).getD i' false = true → Ahead (fun j => (listed.setIfInBounds i true).getD j false) o' := fun i' o' ho' hl' => by
          have e := withI_listed hlt
          have h1 : withI (fun j => listed.getD j false) i i' = true := by rw [← e]; exact hl'
          rw [e]
          rcases withI_true h1 with h1 | rfl
          · exact fun e he hb => withI_old (hcl i' o' ho' h1 e he hb)
          · rw [ho] at ho'
            cases ho'
            exact fun e he hb => withI_old (hah e he hb)
        have hmask : ∀ p ∈ all, p.i = i → ∀ j, Nat.testBit p.m j = true → listed.getD j false = true := fun p hp hpi => by
          have := ha.op p hp rfl
          rw [hpi, ho] at this
          cases this
          exact ha.ahead _ hcl p hp hah
        by_cases hin : ∃ p ∈ pre, p.i = i
        · obtain ⟨p, hpp, rfl⟩ := hin
          refine k1.pick k2 ha hpp rfl hDi (hmask p (k2.mem p hpp) rfl) fun r2 a2 w2 hm2 _ => ⟨?_, hcl'⟩
          rw [withI_listed hlt]
          exact ⟨pre, l, done, c, ids, r2, t', h', hm2, trivial, k2, k3, k4, k5, k6, k7⟩
        · have hbit : Nat.testBit c i = false := by
            cases hb : Nat.testBit c i with
            | false => rfl
            | true => exact absurd ((k2.bits i).1 hb) hin
          rcases okP_all k3 i (by omega) with e | ⟨q, hq, hqi⟩
          · rw [e] at hbit; cases hbit
          · cases l with
            | nil => cases hq
            | cons p l =>
              have hh := k7 p l rfl
              have hpa := k4 p List.mem_cons_self
              have hpi : p.i = i := by
                rcases List.mem_cons.1 hq with rfl | hq
                · exact hqi
                · have e1 := ((okP_cons k3).2.2.2.2.1 hh).1 q hq
                  have e2 := hmask q (k4 q (List.mem_cons_of_mem _ hq)) hqi _ e1
                  have e3 := (k2.bits p.i).2 (k1.sub _ e2)
                  rw [(okP_cons k3).2.1] at e3
                  cases e3
              subst hpi
              refine k1.hardStep hc k2 ha hpa k3 hh (hmask p hpa rfl) k5 k6 fun r2 t2 h2 a2 w2 hm2 hf2 _ _ => ⟨?_, hcl'⟩
              rw [withI_listed hlt]
              refine settle ha (fun _ _ _ _ _ _ _ _ _ _ _ _ _ _ _ _ _ => trivial) l hm2 trivial (k2.add hpa k3) (okP_cons k3).2.2.2.2.2 (fun q hq => k4 q (List.mem_cons_of_mem _ hq)) (fun q => ?_) hf2
              rw [k5 q]
              constructor
              · rintro ⟨h5, h6⟩
                exact ⟨List.mem_cons_of_mem _ h5, h6⟩
              · rintro ⟨h5, h6⟩
                rcases List.mem_cons.1 h5 with rfl | h5
                · exact absurd (by omega) hh
                · exact ⟨h5, h6⟩
      · -- all are done
        obtain ⟨⟨pre, l, done, c, ids, r', t', h', k1, -, k2, k3, k4, k5, k6, k7⟩, hcl⟩ := hI
        have hD : ∀ p ∈ all, listed.getD p.i false = true := fun p hp => by
          have hlt := (Array.getElem?_eq_some_iff.1 (ha.op p hp rfl)).1
          have := hdone p.i hlt
          have h2 : p.i < listed.size := by omega
          simp [h2] at this ⊢
          exact this
        cases l with
        | cons p l =>
          have e3 := (k2.bits p.i).2 (k1.sub _ (hD p (k4 p List.mem_cons_self)))
          rw [(okP_cons k3).2.1] at e3
          cases e3
        | nil =>
          refine ⟨0, 0, t', h', r', k6, rfl, ⟨fun i hi => k1.fr i hi fun p hp hDp => ?_, k1.sz, k1.le, k1.post.rel, k1.marks, Nat.le_trans hs.low k1.post.size⟩, k1.post⟩
          rw [hD p (k2.mem p hp)] at hDp
          cases hDp
      · -- the beginning
        rw [hD0]
        refine settle ha (fun _ _ _ _ _ _ _ _ _ _ _ _ _ _ _ _ _ => trivial) pl (pre := []) (ids := fun _ => none) ⟨hs.sz, hs.le, Marks.far (w := w) (w' := w.drew) (fun _ _ => rfl) hs.marks, fun _ h => (by cases h), fun _ h => (by cases h), fun i hi _ => hs.fr i hi, fun _ h => (by cases h), fun _ h => (by cases h), fun _ h => (by cases h), Post.drew hs.rel⟩ trivial Pre.nil hP hpl (fun q => by simp) hf
      · have : (fun j => (Array.replicate ops.size false).getD j false) i = true := hl
        rw [hD0] at this
        cases this
    · exact hno ro m t h k x r a w hro hf hs
end
end Go.Proofs.YtfkdkbekmimhoaaGreatDoor
/- The machine for closed runs: a map literal whose entries are laid in any order. -/
namespace Go.Proofs.YtfkdkbekmimhoaaGreatDoor

theorem litOf_ok {P : Program} {o : Oper} {q : LitP} (h : litOf P o = some q) : o.op = .makeMap q.ty none ∧ o.dst = some q.tm ∧ o.guard = none ∧ ∃ kt e kd, P.underlying q.ty = some (.map kt e) ∧ P.underlying kt = some kd ∧ keyTag (some kd) = some q.kt := by
  unfold litOf at h
  split at h
  · rename_i ty d h1 h2 h3
    split at h
    · rename_i kt e h4
      cases h5 : P.underlying kt with
      | none => rw [h5] at h; cases h
      | some kd =>
        rw [h5] at h
        cases h6 : keyTag (some kd) with
        | none => rw [h6] at h; cases h
        | some T =>
          rw [h6] at h
          cases h
          exact ⟨h1, h2, h3, kt, e, kd, h4, h5, h6⟩
    · cases h
  · cases h
theorem lateOf_ok {o : Oper} {q : LitP} {k : Value} {v : Operand} (h : lateOf q o = some (k, v)) : o.op = .insert q.ty (.tmp q.tm) (.const k) v ∧ o.dst = none ∧ o.guard = none := by
  unfold lateOf at h
  split at h
  · rename_i ty d k' v' h1 h2 h3
    split at h
    · rename_i h4
      cases h
      rw [Bool.and_eq_true] at h4
      have e1 := beq_of h4.1
      have e2 := beq_of h4.2
      subst e1 e2
      exact ⟨h1, h2, h3⟩
    · cases h
  · cases h
theorem isLate_iff {q : LitP} {o : Oper} : isLate q o = true ↔ ∃ k v, lateOf q o = some (k, v) := by
  unfold isLate
  rw [Option.isSome_iff_exists]
  constructor
  · rintro ⟨⟨k, v⟩, h⟩; exact ⟨k, v, h⟩
  · rintro ⟨k, v, h⟩; exact ⟨_, h⟩

/-- What is tested of a literal. -/
structure OkL (q : LitP) (ops : Array Oper) (its its2 : List PS) : Prop where
  tm : ∀ p ∈ its2, p.o.dst ≠ some q.tm
  z : ∀ l ∈ its, isLate q l.o = true → Nat.testBit l.m 0 = true
  sees : ∀ l ∈ its, isLate q l.o = true → ∀ p ∈ its2, ∀ d, p.o.dst = some d → d ∈ seenBy ops l.o → Nat.testBit l.m p.i = true
theorem okL_ok {q : LitP} {ops : Array Oper} {its its2 : List PS} (h : okL q ops its its2 = true) : OkL q ops its its2 := by
  unfold okL at h
  simp only [Bool.and_eq_true, List.all_eq_true, Bool.or_eq_true, Bool.not_eq_true'] at h
  obtain ⟨h1, h2⟩ := h
  have h3 : ∀ l ∈ its, isLate q l.o = true → Nat.testBit l.m 0 = true ∧ ∀ p ∈ its2, (match p.o.dst with | some d => !(seenBy ops l.o).elem d || Nat.testBit l.m p.i | none => true) = true := fun l hl he => by
    rcases h2 l hl with h | h
    · rw [he] at h; cases h
    · exact h
  refine ⟨fun p hp e => ?_, fun l hl he => (h3 l hl he).1, fun l hl he p hp d hd hs => ?_⟩
  · have := h1 p hp
    rw [e] at this
    simp at this
  · have := (h3 l hl he).2 p hp
    rw [hd] at this
    simp only [Bool.or_eq_true, Bool.not_eq_true'] at this
    rcases this with h | h
    · have : (seenBy ops l.o).elem d = true := by simpa using hs
      rw [this] at h; cases h
    · exact h
theorem keysOk_ok {T : Nat} : ∀ {l : List Value}, keysOk T l = true → (∀ k ∈ l, (ofV k).tag = T) ∧ l.Pairwise fun k k' => (ofV k').a = (ofV k).a ∧ keysOk.keySame T (ofV k) (ofV k') = false
  | [], _ => ⟨fun _ h => (by cases h), .nil⟩
  | k :: l, h => by
    unfold keysOk at h
    simp only [Bool.and_eq_true, List.all_eq_true, Bool.not_eq_true'] at h
    obtain ⟨h1, h2, h3⟩ := h
    obtain ⟨h4, h5⟩ := keysOk_ok h3
    refine ⟨fun x hx => ?_, .cons (fun x hx => ?_) h5⟩
    · rcases List.mem_cons.1 hx with rfl | hx
      · exact beq_of h1
      · exact h4 x hx
    · exact ⟨beq_of (h2 x hx).1, (h2 x hx).2⟩
/-- Two keys are not the same. -/
theorem keys_apart {kd : TypeDesc} {T : Nat} {k k' : Value} (hT : keyTag (some kd) = some T) (h1 : (ofV k).tag = T) (h2 : (ofV k').tag = T) (h3 : (ofV k').a = (ofV k).a) (h4 : keysOk.keySame T (ofV k) (ofV k') = false) : Instr.sameNow kd k k' = some false ∧ Instr.sameNow kd k' k = some false ∧ ofV k ≠ ofV k' := by
  have v1 := VR_ofV (fun _ => none) k
  have v2 := VR_ofV (fun _ => none) k'
  have hne : ofV k ≠ ofV k' := fun e => by
    rw [e] at h4
    unfold keysOk.keySame at h4
    split at h4 <;> simp at h4
  rcases keyDesc hT with ⟨kk, rfl⟩ | rfl
  · cases hT
    obtain ⟨k1, e1, e2⟩ := v1.inv0 h1
    obtain ⟨k2, e3, e4⟩ := v2.inv0 h2
    have : k1 = k2 := kindN_inj (e2.symm.trans (h3.symm.trans e4))
    subst this
    have hi : (ofV k).i ≠ (ofV k').i := by simpa [keysOk.keySame] using h4
    refine ⟨?_, ?_, hne⟩ <;> (rw [e1, e3]; simp [Instr.sameNow])
    · exact hi
    · exact fun e => hi e.symm
  · cases hT
    obtain ⟨s1, e1, e2⟩ := v1.inv2 h1
    obtain ⟨s2, e3, e4⟩ := v2.inv2 h2
    have hi : (ofV k).s ≠ (ofV k').s := by simpa [keysOk.keySame] using h4
    have hs : s1 ≠ s2 := fun e => hi (by rw [e2, e4, e])
    refine ⟨?_, ?_, hne⟩ <;> (rw [e1, e3]; simp only [Instr.sameNow])
    · have : (s1 == s2) = false := by
        cases hb : s1 == s2 with
        | false => rfl
        | true => exact absurd ((bytes_beq _ _).1 hb) hs
      show some (s1 == s2) = _
      rw [this]
    · have : (s2 == s1) = false := by
        cases hb : s2 == s1 with
        | false => rfl
        | true => exact absurd ((bytes_beq _ _).1 hb).symm hs
      show some (s2 == s1) = _
      rw [this]

theorem Rel.off {P : Program} {r : Ren} {h : AH} {w w' : World} {b : Nat} (hr : Rel P r h w) (hno : ∀ i o p, h.get i = some o → r i = some p → p.blk ≠ b) (hw : ∀ c, c ≠ b → w'.heap[c]? = w.heap[c]?) (hz : w'.heap.size = w.heap.size) : Rel P r h w' :=
  ⟨hr.small, fun i o p h1 h2 => (hr.live i o p h1 h2).same (hw _ (hno i o p h1 h2)), hr.inj, fun i p hp => by have := hr.dom i p hp; omega, hr.top⟩
theorem Marks.keep {m : Nat} {w w' : World} (hw : ∀ (b : Nat) (d : Option (List Deferred)), w.heap[b]? = some (.deferred d) → w'.heap[b]? = w.heap[b]?) : ∀ {ds : List Deferred}, Marks m w ds → Marks m w' ds
  | _, .nil => .nil
  | _, .cons h0 h1 h2 t => .cons h0 ((hw _ _ h1).trans h1) h2 (Marks.keep hw t)

section
variable {P : Program} {n m : Nat} {call : CallT} {ops : Array Oper} {L : Nat → Bool} {q : LitP} {its its2 all pre l done : List PS} {c id : Nat} {D : Nat → Bool} {ids : Nat → Option Nat} {r0 r : Ren} {h0 h : AH} {w0 w : World} {t : Fr} {a : Act} {k : KC} {x : RV} {ro : Option Nat} {Q : Exit → Act → World → Prop} {K : Act → World → Prop}

/-- A literal on the way. -/
structure Lit (q : LitP) (its : List PS) (h0 : AH) (w0 : World) (id : Nat) (D : Nat → Bool) (pre : List PS) (ids : Nat → Option Nat) (r : Ren) (t : Fr) (h : AH) (w : World) : Prop where
  tmp : t.get q.tm = .map id
  dead : h.get id = none
  lt : id < h.next
  lo : h0.next ≤ id
  idz : ids 0 = some id
  zin : ∃ p ∈ pre, p.i = 0
  cl : ∀ p ∈ its, D p.i = true → ∀ j, Nat.testBit p.m j = true → D j = true
  before : D 0 = false → r id = none
  after : D 0 = true → ∃ pl cur c, r id = some pl ∧ w.heap[pl.blk]? = some (.map cur c) ∧ w0.heap.size ≤ pl.blk ∧ (∀ i o p, h.get i = some o → r i = some p → p.blk ≠ pl.blk) ∧
    (∀ E ∈ cur.toList, ∃ p ∈ its, D p.i = true ∧ ∃ k v, lateOf q p.o = some (k, v) ∧ E.key = k ∧ VR r ((evB v).f t) E.val) ∧
    (∀ p ∈ its, D p.i = true → ∀ k v, lateOf q p.o = some (k, v) → ∃ E ∈ cur.toList, E.key = k ∧ VR r ((evB v).f t) E.val)

theorem ev_putF {n : Nat} {d : Option Tmp} {t : Fr} {u : AV} {v : Operand} (hn : n ≤ 512) (h : ∀ e, v = .tmp e → d ≠ some e) : (evB v).f ((putF n d).f t u) = (evB v).f t := by
  cases v with
  | tmp e =>
    by_cases he : e < 512
    · rw [ev_get _ he, ev_get _ he, putF_ne hn he (h e rfl)]
    · rw [ev_big _ he, ev_big _ he]
  | const v => rw [evB_const, evB_const]
  | func f => rfl
  | global g => rfl
theorem late_seen {o : Oper} {k : Value} {v : Operand} {e : Nat} (h : lateOf q o = some (k, v)) (hv : v = .tmp e) : e ∈ seenBy ops o := by
  obtain ⟨h1, -, -⟩ := lateOf_ok h
  unfold seenBy
  refine List.mem_append_right _ ?_
  rw [h1, hv]
  simp [Op.operands, tmpsOf]
theorem late_tm {o : Oper} {k : Value} {v : Operand} (h : lateOf q o = some (k, v)) : q.tm ∈ seenBy ops o := by
  obtain ⟨h1, -, -⟩ := lateOf_ok h
  unfold seenBy
  refine List.mem_append_right _ ?_
  rw [h1]
  simp [Op.operands, tmpsOf]

/-- What was laid stays as another temporary is put. -/
theorem Lit.evs (ok : OkL q ops its its2) (hn : n ≤ 512) {p : PS} (hp : p ∈ its2) (hnot : ∀ l ∈ its, D l.i = true → Nat.testBit l.m p.i = false) {u : AV} {l : PS} (hl : l ∈ its) (hD : D l.i = true) {k : Value} {v : Operand} (hk : lateOf q l.o = some (k, v)) : (evB v).f ((putF n p.o.dst).f t u) = (evB v).f t :=
  ev_putF hn fun e he hd => by
    have := ok.sees l hl (isLate_iff.2 ⟨k, v, hk⟩) p hp e hd (late_seen hk he)
    rw [hnot l hl hD] at this
    cases this

/-- One more is reckoned. -/
theorem Lit.soft (ok : OkL q ops its its2) (hm : Mid P n m ops L pre D ids r0 h0 w0 r t h a w) (hp : Pre ops n all pre c) {p : PS} (hpa : p ∈ its2) (hb : Nat.testBit c p.i = false) {h1 : AH} {id' : Option Nat} {u : AV} (hh : h1 = h ∨ ∃ ob, h1 = h.new ob)
    (hx : Lit q its h0 w0 id D pre ids r t h w) (htm : q.tm < n) : Lit q its h0 w0 id D (p :: pre) (fun i => if i = p.i then id' else ids i) r ((putF n p.o.dst).f t u) h1 w := by
  have hget : ∀ i o, h1.get i = some o → i = h.next ∨ h.get i = some o := fun i o hi => by
    rcases hh with rfl | ⟨ob, rfl⟩
    · exact .inr hi
    · rw [AH.get_new] at hi
      split at hi
      · rename_i e; exact .inl e.1
      · exact .inr hi
  have hnx : h.next ≤ h1.next := by
    rcases hh with rfl | ⟨ob, rfl⟩
    · exact Nat.le_refl _
    · simp
  have hnz : p.i ≠ 0 := fun e => by
    have := (hp.bits 0).2 hx.zin
    rw [e, this] at hb
    cases hb
  have hnot : ∀ l ∈ its, D l.i = true → Nat.testBit l.m p.i = false := fun l hl hD => by
    cases hbt : Nat.testBit l.m p.i with
    | false => rfl
    | true =>
      obtain ⟨p', h1, h2⟩ := hm.sub _ (hx.cl l hl hD _ hbt)
      rw [(hp.bits p.i).2 ⟨p', h1, h2⟩] at hb
      cases hb
  refine ⟨?_, ?_, Nat.lt_of_lt_of_le hx.lt hnx, hx.lo, ?_, ?_, hx.cl, hx.before, fun hD => ?_⟩
  · rw [putF_ne hm.le (Nat.lt_of_lt_of_le htm hm.le) (ok.tm p hpa)]
    exact hx.tmp
  · cases hg : h1.get id with
    | none => rfl
    | some o =>
      rcases hget id o hg with e | e
      · have := hx.lt; omega
      · rw [hx.dead] at e; cases e
  · rw [if_neg (fun e => hnz e.symm)]
    exact hx.idz
  · obtain ⟨p', h1, h2⟩ := hx.zin
    exact ⟨p', List.mem_cons_of_mem _ h1, h2⟩
  · obtain ⟨pl, cur, c, k1, k2, k3, k4, k5, k6⟩ := hx.after hD
    refine ⟨pl, cur, c, k1, k2, k3, fun i o p' hi hr => ?_, fun E hE => ?_, fun l hl hDl k v hk => ?_⟩
    · rcases hget i o hi with e | e
      · rw [e, hm.post.rel.fresh] at hr; cases hr
      · exact k4 i o p' e hr
    · obtain ⟨l, q1, q2, k, v, q3, q4, q5⟩ := k5 E hE
      exact ⟨l, q1, q2, k, v, q3, q4, by rw [Lit.evs ok hm.le hpa hnot q1 q2 q3]; exact q5⟩
    · obtain ⟨E, q1, q2, q3⟩ := k6 l hl hDl k v hk
      exact ⟨E, q1, q2, by rw [Lit.evs ok hm.le hpa hnot hl hDl hk]; exact q3⟩

/-- One that was reckoned is done, and is no entry. -/
theorem Lit.stp (hx : Lit q its h0 w0 id D pre ids r t h w) {i : Nat} (hi0 : i ≠ 0) (hni : ∀ p ∈ its, p.i = i → isLate q p.o = false) (hcl : ∀ p ∈ its, withI D i p.i = true → ∀ j, Nat.testBit p.m j = true → withI D i j = true) {id' : Option Nat} (hid : D 0 = false → id' ≠ some id) {r' : Ren} {w' : World} (hs : Stp r w id' r' w') : Lit q its h0 w0 id (withI D i) pre ids r' t h w' := by
  have h0' : withI D i 0 = D 0 := by
    unfold withI
    have : Nat.beq 0 i = false := by
      cases hb : Nat.beq 0 i with
      | false => rfl
      | true => exact absurd (beq_of hb).symm hi0
    rw [this, Bool.or_false]
  have hold : ∀ p ∈ its, isLate q p.o = true → withI D i p.i = true → D p.i = true := fun p hp hl hD => by
    rcases withI_true hD with e | e
    · exact e
    · rw [hni p hp e] at hl; cases hl
  refine ⟨hx.tmp, hx.dead, hx.lt, hx.lo, hx.idz, hx.zin, hcl, fun hD => ?_, fun hD => ?_⟩
  · rw [h0'] at hD
    cases hr : r' id with
    | none => rfl
    | some pl =>
      rcases hs.new id pl hr with e | ⟨e, -⟩
      · rw [hx.before hD] at e; cases e
      · exact absurd e (hid hD)
  · rw [h0'] at hD
    obtain ⟨pl, cur, c, k1, k2, k3, k4, k5, k6⟩ := hx.after hD
    have hlt : pl.blk < w.heap.size := (Array.getElem?_eq_some_iff.1 k2).1
    refine ⟨pl, cur, c, hs.ext _ _ k1, (hs.frame _ hlt).trans k2, k3, fun i o p' hi hr => ?_, fun E hE => ?_, fun l hl hDl k v hk => ?_⟩
    · rcases hs.new i p' hr with e | ⟨-, e⟩
      · exact k4 i o p' hi e
      · omega
    · obtain ⟨l, q1, q2, k, v, q3, q4, q5⟩ := k5 E hE
      exact ⟨l, q1, withI_old q2, k, v, q3, q4, q5.mono hs.ext⟩
    · obtain ⟨E, q1, q2, q3⟩ := k6 l hl (hold l hl (isLate_iff.2 ⟨k, v, hk⟩) hDl) k v hk
      exact ⟨E, q1, q2, q3.mono hs.ext⟩

/-- One that does more is done. -/
theorem Lit.hard (ok : OkL q ops its its2) (hn : n ≤ 512) (htm : q.tm < n) (hx : Lit q its h0 w0 id D pre ids r t h w) {p : PS} (hpa : p ∈ its2) (hDp : D p.i = false) (hi0 : p.i ≠ 0) (hni : ∀ p' ∈ its, p'.i = p.i → isLate q p'.o = false) (hcl : ∀ p' ∈ its, withI D p.i p'.i = true → ∀ j, Nat.testBit p'.m j = true → withI D p.i j = true)
    {r' : Ren} {h' : AH} {w' : World} (hP : Post P r h w r' h' w') {u : AV} : Lit q its h0 w0 id (withI D p.i) (p :: pre) ids r' ((putF n p.o.dst).f t u) h' w' := by
  have h0' : withI D p.i 0 = D 0 := by
    unfold withI
    have : Nat.beq 0 p.i = false := by
      cases hb : Nat.beq 0 p.i with
      | false => rfl
      | true => exact absurd (beq_of hb).symm hi0
    rw [this, Bool.or_false]
  have hold : ∀ p' ∈ its, isLate q p'.o = true → withI D p.i p'.i = true → D p'.i = true := fun p' hp hl hD => by
    rcases withI_true hD with e | e
    · exact e
    · rw [hni p' hp e] at hl; cases hl
  have hnot : ∀ l ∈ its, D l.i = true → Nat.testBit l.m p.i = false := fun l hl hD => by
    cases hbt : Nat.testBit l.m p.i with
    | false => rfl
    | true => rw [hx.cl l hl hD _ hbt] at hDp; cases hDp
  have hdead : h'.get id = none := by
    cases hD : D 0 with
    | false => rw [hP.keep id hx.lt (hx.before hD)]; exact hx.dead
    | true =>
      obtain ⟨pl, cur, c, k1, k2, k3, k4, k5, k6⟩ := hx.after hD
      have hlt : pl.blk < w.heap.size := (Array.getElem?_eq_some_iff.1 k2).1
      cases hg : h'.get id with
      | none => rfl
      | some o =>
        rcases hP.own id o pl hg (hP.ext _ _ k1) with e | ⟨j, o', p', e1, e2, e3⟩
        · omega
        · exact absurd e3 (k4 j o' p' e1 e2)
  refine ⟨?_, hdead, Nat.lt_of_lt_of_le hx.lt hP.nxt, hx.lo, hx.idz, ?_, hcl, fun hD => ?_, fun hD => ?_⟩
  · rw [putF_ne hn (Nat.lt_of_lt_of_le htm hn) (ok.tm p hpa)]
    exact hx.tmp
  · obtain ⟨p', h1, h2⟩ := hx.zin
    exact ⟨p', List.mem_cons_of_mem _ h1, h2⟩
  · rw [h0'] at hD
    cases hr : r' id with
    | none => rfl
    | some pl =>
      rcases hP.new id pl hr with e | e
      · rw [hx.before hD] at e; cases e
      · have := hx.lt; omega
  · rw [h0'] at hD
    obtain ⟨pl, cur, c, k1, k2, k3, k4, k5, k6⟩ := hx.after hD
    have hlt : pl.blk < w.heap.size := (Array.getElem?_eq_some_iff.1 k2).1
    refine ⟨pl, cur, c, hP.ext _ _ k1, (hP.frame _ hlt k4).trans k2, k3, fun i o p' hi hr e => ?_, fun E hE => ?_, fun l hl hDl k v hk => ?_⟩
    · rcases hP.own i o p' hi hr with e1 | ⟨j, o', p2, e1, e2, e3⟩
      · omega
      · exact k4 j o' p2 e1 e2 (e3.trans e)
    · obtain ⟨l, q1, q2, k, v, q3, q4, q5⟩ := k5 E hE
      exact ⟨l, q1, withI_old q2, k, v, q3, q4, by rw [Lit.evs ok hn hpa hnot q1 q2 q3]; exact q5.mono hP.ext⟩
    · have hDl' := hold l hl (isLate_iff.2 ⟨k, v, hk⟩) hDl
      obtain ⟨E, q1, q2, q3⟩ := k6 l hl hDl' k v hk
      exact ⟨E, q1, q2, by rw [Lit.evs ok hn hpa hnot hl hDl' hk]; exact q3.mono hP.ext⟩

theorem wp_nothing {i : Nat} {o : Oper} {w' : World} (ho : ops[i]? = some o) (hw : Region.wanted o (yielded ops a.tmps) = true) (hnd : ∀ c, o.op ≠ .defer c) (he : (execOp a.eval o).run P w = .ok .skip w') (hK : K (a.put o.dst undef) w') : wpOpIn (fw ro) 0 P ops Q i K a w := by
  unfold wpOpIn
  simp only [ho, hw, if_true]
  refine ⟨fun _ _ => trivial, ?_⟩
  rw [Oper.semAt_eq _ _ _ hnd, he]
  exact hK

/-- The literal is made. -/
theorem Lit.made (hm : Mid P n m ops L pre D ids r0 h0 w0 r t h a w) (hp : Pre ops n all pre c) (ha : AllOk ops L all) (hx : Lit q its h0 w0 id D pre ids r t h w) {z : PS} (hz : z ∈ pre) (hz0 : z.i = 0) (hop : ops[0]? = some z.o) (hq : litOf P z.o = some q) (hD : D 0 = false)
    (hnl : ∀ p ∈ its, isLate q p.o = true → Nat.testBit p.m 0 = true) (hcl : ∀ p ∈ its, withI D 0 p.i = true → ∀ j, Nat.testBit p.m j = true → withI D 0 j = true) (hnz : ∀ p ∈ its, p.i ≠ 0)
    (hK : ∀ r' a' w', Mid P n m ops L pre (withI D 0) ids r0 h0 w0 r' t h a' w' → Lit q its h0 w0 id (withI D 0) pre ids r' t h w' → K a' w') : wpOpIn (fw ro) 0 P ops Q 0 K a w := by
  obtain ⟨g1, g2, g3, -⟩ := litOf_ok hq
  have hrn := hx.before hD
  have hl := map_late (P := P) hm.post.rel hrn hx.lt (fun o' ho => by rw [hx.dead] at ho; cases ho)
  have hv : VR (r.set id ⟨w.heap.size, 0, 0, 0⟩) (.map id) (.map (some w.heap.size)) := .map (p := ⟨w.heap.size, 0, 0, 0⟩) (Ren.set_same _ _ _)
  have hDz : D z.i = false := by rw [hz0]; exact hD
  refine wp_value (v' := .map (some w.heap.size)) (w' := w.alloc (.map #[] 0)) hop (wanted_none g3 _) (fun c e => by rw [g1] at e; cases e) (by simp [execOp, g1, Instr.makeMap]) (hK (r.set id ⟨w.heap.size, 0, 0, 0⟩) _ _ ⟨put_size.trans hm.sz, hm.le, by rw [put_defers]; exact hm.marks.far hl.frame, fun p hp hc => withI_old (hm.hard p hp hc), fun i hi => ?_, fun i hi hno => ?_, fun p hpp hDp => ?_, fun p hpp q' hq' hDp hDq' => hm.inj p hpp q' hq' (withI_false hDp).1 (withI_false hDq').1, fun p hpp hDp => hm.low p hpp (withI_false hDp).1, hl.after hm.post hx.lo hx.lt⟩ ⟨hx.tmp, hx.dead, hx.lt, hx.lo, hx.idz, hx.zin, hcl, (fun e => by rw [withI_self] at e; cases e), fun _ => ?_⟩)
  · rcases withI_true hi with e | e
    · exact hm.sub i e
    · exact ⟨z, hz, hz0.trans e.symm⟩
  · by_cases e : z.o.dst = some i
    · have hit : i = q.tm := Option.some.inj (e.symm.trans g2)
      rw [e, put_eq (by rw [hm.sz]; exact hp.dst z hz i e), hit, hx.tmp]
      exact hv
    · rw [put_ne e]
      refine (hm.fr i hi fun p hpp hDp e2 => ?_).mono hl.ext
      by_cases e3 : p.i = 0
      · rw [ha.uniq p (hp.mem p hpp) z (hp.mem z hz) (e3.trans hz0.symm)] at e2
        exact e e2
      · refine hno p hpp ?_ e2
        simp only [withI, hDp, Bool.false_or]
        cases hb : Nat.beq p.i 0 with
        | false => rfl
        | true => exact absurd (beq_of hb) e3
  · obtain ⟨hDp, hne⟩ := withI_false hDp
    rcases hm.lag p hpp hDp with hLq | ⟨ts', v2, k1, k2, k3⟩
    · exact .inl hLq
    refine .inr ⟨ts', v2, k1, k2, ?_⟩
    rcases k3 with k3 | k3 | ⟨j', ob', k3, k4, k5, k6, k7, k8, k9⟩
    · exact .inl k3
    · exact .inr (.inl k3)
    · refine .inr (.inr ⟨j', ob', k3, k4, k5, ?_, k7, k8, k9⟩)
      show (if j' = id then some _ else r j') = none
      rw [if_neg, k6]
      intro e
      rw [e] at k4
      exact hne ((hm.inj p hpp z hz hDp hDz id k4 (by rw [hz0]; exact hx.idz)).trans hz0)
  · refine ⟨⟨w.heap.size, 0, 0, 0⟩, #[], 0, Ren.set_same _ _ _, heap_push_new w _, hm.post.size, fun i o p hi hr e => ?_, (fun E hE => by simp at hE), fun p hpp hDp k v hk => ?_⟩
    · have hne : i ≠ id := fun e2 => by rw [e2, hx.dead] at hi; cases hi
      have hr' : r i = some p := by
        have : (if i = id then some _ else r i) = some p := hr
        rwa [if_neg hne] at this
      have := (hm.post.rel.dom i p hr').2
      rw [e] at this
      exact Nat.lt_irrefl _ this
    · rcases withI_true hDp with e | e
      · rw [hx.cl p hpp e 0 (hnl p hpp (isLate_iff.2 ⟨k, v, hk⟩))] at hD; cases hD
      · exact absurd e (hnz p hpp)

/-- An entry is laid. -/
theorem Lit.laid (ok : OkL q ops its its2) (htm : q.tm < n) (hm : Mid P n m ops L pre D ids r0 h0 w0 r t h a w) (hp : Pre ops n all pre c) (ha : AllOk ops L all) (hall : ∀ p ∈ all, p.i = 0 ∨ p ∈ its2) (hx : Lit q its h0 w0 id D pre ids r t h w)
    {kt e : TypeId} {kd : TypeDesc} (hty : P.underlying q.ty = some (.map kt e)) (hkt : P.underlying kt = some kd) (hT : keyTag (some kd) = some q.kt)
    (hkeys : ∀ p ∈ its, ∀ p' ∈ its, p.i ≠ p'.i → ∀ k v k' v', lateOf q p.o = some (k, v) → lateOf q p'.o = some (k', v') → Instr.sameNow kd k k' = some false)
    {p d : PS} (hpi : p ∈ its) (hdp : d ∈ pre) (hdi : d.i = p.i) (hdn : d.o.dst = none) (hop : ops[p.i]? = some p.o) {kv : Value} {v : Operand} (hl : lateOf q p.o = some (kv, v)) (hD : D p.i = false) (hah : ∀ j, Nat.testBit p.m j = true → D j = true)
    (hcl : ∀ p' ∈ its, withI D p.i p'.i = true → ∀ j, Nat.testBit p'.m j = true → withI D p.i j = true) (huniq : ∀ p' ∈ its, p'.i = p.i → p' = p)
    (hK : ∀ a' w', Mid P n m ops L pre (withI D p.i) ids r0 h0 w0 r t h a' w' → Lit q its h0 w0 id (withI D p.i) pre ids r t h w' → K a' w') : wpOpIn (fw ro) 0 P ops Q p.i K a w := by
  obtain ⟨g1, g2, g3⟩ := lateOf_ok hl
  have hlate := isLate_iff.2 ⟨kv, v, hl⟩
  have hD0 : D 0 = true := hah 0 (ok.z p hpi hlate)
  obtain ⟨pl, cur, c, k1, k2, k3, k4, k5, k6⟩ := hx.after hD0
  have hseen : SeenOk r t a (seenBy ops p.o) := fun d' hd' => by
    by_cases hd5 : d' < 512
    · rw [ev_get _ hd5, eval_tmp]
      refine hm.fr d' hd5 fun p' hp' hDp' e => ?_
      rcases hall p' (hp.mem p' hp') with e1 | e1
      · rw [e1, hD0] at hDp'; cases hDp'
      · rw [hah _ (ok.sees p hpi hlate p' e1 d' e hd')] at hDp'; cases hDp'
    · rw [ev_big _ hd5]
      exact .junk _
  have hev := seen_ev hseen
  have htv : a.eval (.tmp q.tm) = .map (some pl.blk) := by
    have h1 := hseen q.tm (late_tm hl)
    rw [ev_get _ (Nat.lt_of_lt_of_le htm hm.le), hx.tmp] at h1
    obtain ⟨pl', h2, h3⟩ := h1.inv5 rfl rfl
    have h2' : r id = some pl' := h2
    rw [k1] at h2'
    cases h2'
    exact h3
  have hvv : VR r ((evB v).f t) (a.eval v) := hev v (by rw [g1]; simp [Op.operands])
  have hkk : VR r (ofV kv) kv := VR_ofV r kv
  have hnew : Instr.findNow kd kv cur.toList 0 = some none := by
    have hno : ∀ E ∈ cur.toList, Instr.sameNow kd kv E.key = some false := fun E hE => by
      obtain ⟨l, q1, q2, k', v', q3, q4, -⟩ := k5 E hE
      rw [q4]
      exact hkeys p hpi l q1 (fun e => by rw [e, q2] at hD; cases hD) _ _ _ _ hl q3
    rcases findNow_all (kd := kd) (kv := kv) cur.toList 0 (fun E hE => ⟨_, hno E hE⟩) with ⟨e, -⟩ | ⟨j, E, -, e2, e3⟩
    · exact e
    · rw [hno E e2] at e3; cases e3
  have hlt : pl.blk < w.heap.size := (Array.getElem?_eq_some_iff.1 k2).1
  have hck := run_checkKey (P := P) (w := w) (b := true) (kt := kt) (v := kv) hkt hT
  refine wp_nothing (w' := wobj w pl.blk (.map (cur.push { key := kv, val := a.eval v, born := c }) (c + 1))) hop (wanted_none g3 _) (fun c e => by rw [g1] at e; cases e) ?_ ?_
  · simp only [execOp, g1]
    rw [htv]
    simp [Act.eval, Instr.mapUpdate, run_underlying hty, run_getMap k2, run_checkKey hkt hT, run_findKey hkt hnew, run_setMap k2]
  rw [g2]
  have hfar : ∀ b, b ≠ pl.blk → (wobj w pl.blk (.map (cur.push { key := kv, val := a.eval v, born := c }) (c + 1))).heap[b]? = w.heap[b]? := fun b hb => by simp [wobj, Array.getElem?_setIfInBounds_ne (Ne.symm hb)]
  have hsz : (wobj w pl.blk (.map (cur.push { key := kv, val := a.eval v, born := c }) (c + 1))).heap.size = w.heap.size := by simp [wobj]
  have hgot := wobj_get (w := w) (b := pl.blk) (O := .map (cur.push { key := kv, val := a.eval v, born := c }) (c + 1)) hlt
  have hos : (wobj w pl.blk (.map (cur.push { key := kv, val := a.eval v, born := c }) (c + 1))).os = w.os ∧ (wobj w pl.blk (.map (cur.push { key := kv, val := a.eval v, born := c }) (c + 1))).tape = w.tape ∧ (wobj w pl.blk (.map (cur.push { key := kv, val := a.eval v, born := c }) (c + 1))).output = w.output := ⟨rfl, rfl, rfl⟩
  generalize wobj w pl.blk (.map (cur.push { key := kv, val := a.eval v, born := c }) (c + 1)) = w' at hfar hsz hgot hos ⊢
  have h0' : withI D p.i 0 = true := withI_old hD0
  refine hK _ _ ⟨hm.sz, hm.le, hm.marks.keep (fun b d' hb => hfar b fun e2 => by rw [e2, k2] at hb; cases hb), fun p' hp' hc => withI_old (hm.hard p' hp' hc), fun i hi => ?_, fun i hi hno => hm.fr i hi fun p' hp' hDp' e2 => ?_, fun p' hp' hDp' => hm.lag p' hp' (withI_false hDp').1, fun p' hp' q' hq' hDp hDq' => hm.inj p' hp' q' hq' (withI_false hDp).1 (withI_false hDq').1, fun p' hp' hDp' => hm.low p' hp' (withI_false hDp').1, ?_⟩ ⟨hx.tmp, hx.dead, hx.lt, hx.lo, hx.idz, hx.zin, hcl, (fun e => by rw [h0'] at e; cases e), fun _ => ⟨pl, _, _, k1, hgot, k3, k4, fun E hE => ?_, fun l hl' hDl k v' hk => ?_⟩⟩
  · rcases withI_true hi with e | e
    · exact hm.sub i e
    · exact ⟨d, hdp, hdi.trans e.symm⟩
  · by_cases e3 : p'.i = p.i
    · rw [ha.uniq p' (hp.mem p' hp') d (hp.mem d hdp) (e3.trans hdi.symm), hdn] at e2
      cases e2
    · refine hno p' hp' ?_ e2
      simp only [withI, hDp', Bool.false_or]
      cases hb : Nat.beq p'.i p.i with
      | false => rfl
      | true => exact absurd (beq_of hb) e3
  · have hpo := hm.post
    exact ⟨hpo.rel.off k4 hfar hsz, hpo.ext, hpo.new, hpo.nxt, by rw [hsz]; exact hpo.size, fun b hb hno => by rw [hfar b (by omega)]; exact hpo.frame b hb hno, hpo.own, hpo.keep, hos.1.trans hpo.os, hos.2.1.trans hpo.tape, hos.2.2.trans hpo.output, hpo.froz⟩
  · rw [Array.toList_push] at hE
    rcases List.mem_append.1 hE with hE | hE
    · obtain ⟨l, q1, q2, q3⟩ := k5 E hE
      exact ⟨l, q1, withI_old q2, q3⟩
    · have hE := List.mem_singleton.1 hE
      subst hE
      exact ⟨p, hpi, withI_self _ _, kv, v, hl, rfl, hvv⟩
  · rw [Array.toList_push]
    rcases withI_true hDl with e | e
    · obtain ⟨E, q1, q2⟩ := k6 l hl' e k v' hk
      exact ⟨E, List.mem_append_left _ q1, q2⟩
    · rw [huniq l hl' e, hl] at hk
      cases hk
      exact ⟨_, List.mem_append_right _ (List.mem_singleton.2 rfl), rfl, hvv⟩
end
end Go.Proofs.YtfkdkbekmimhoaaGreatDoor
/- The machine for closed runs: a region with a map literal, whatever order is drawn. -/
namespace Go.Proofs.YtfkdkbekmimhoaaGreatDoor

/-- The entries of a literal, among the items. -/
def lateI (q : LitP) (its : List PS) (i : Nat) : Bool := its.any fun p => Nat.beq p.i i && isLate q p.o
theorem lateI_iff {q : LitP} {its : List PS} {i : Nat} : lateI q its i = true ↔ ∃ p ∈ its, p.i = i ∧ isLate q p.o = true := by
  unfold lateI
  simp only [List.any_eq_true, Bool.and_eq_true]
  constructor
  · rintro ⟨p, h1, h2, h3⟩; exact ⟨p, h1, beq_of h2, h3⟩
  · rintro ⟨p, h1, h2, h3⟩; exact ⟨p, h1, by rw [h2]; exact Nat.beq_refl i, h3⟩
theorem litItem_i (q : LitP) (p : PS) : (litItem q p).i = p.i := by unfold litItem; split <;> rfl
theorem litItem_m (q : LitP) (p : PS) : (litItem q p).m = p.m := by unfold litItem; split <;> rfl
theorem litItem_after (q : LitP) (p : PS) : (litItem q p).o.after = p.o.after := by unfold litItem; split <;> rfl
theorem litItem_no {q : LitP} {p : PS} (h : isLate q p.o = false) : litItem q p = p := by unfold litItem; rw [h]
theorem litItem_yes {q : LitP} {p : PS} (h : isLate q p.o = true) : litItem q p = ⟨p.i, dummyO p.o, p.m⟩ := by unfold litItem; rw [h]

theorem litAll {P : Program} {ops : Array Oper} {z : PS} {its : List PS} {q : LitP} (hz : itemsGo 0 [] ops.toList = z :: its) (hq : litOf P z.o = some q) : AllOk ops (lateI q its) (z :: its.map (litItem q)) ∧ z.i = 0 ∧ (∀ p ∈ its, p.i ≠ 0) ∧ ∀ p ∈ its, ∀ p' ∈ its, p.i = p'.i → p = p' := by
  have hA := allOk ops
  rw [hz] at hA
  have hz0 : z.i = 0 := by
    cases hl : ops.toList with
    | nil => rw [hl] at hz; cases hz
    | cons o l =>
      rw [hl, itemsGo] at hz
      have := (List.cons.inj hz).1
      rw [← this]
  have hzl : isLate q z.o = false := by
    obtain ⟨g1, -⟩ := litOf_ok hq
    cases hb : isLate q z.o with
    | false => rfl
    | true =>
      obtain ⟨k, v, h⟩ := isLate_iff.1 hb
      rw [(lateOf_ok h).1] at g1
      cases g1
  have huniq : ∀ p ∈ its, ∀ p' ∈ its, p.i = p'.i → p = p' := fun p hp p' hp' e => hA.uniq p (List.mem_cons_of_mem _ hp) p' (List.mem_cons_of_mem _ hp') e
  have hnz : ∀ p ∈ its, p.i ≠ 0 := by
    cases hl : ops.toList with
    | nil => rw [hl] at hz; cases hz
    | cons o l =>
      rw [hl, itemsGo] at hz
      have e := (List.cons.inj hz).2
      intro p hp
      rw [← e] at hp
      have := items_le l _ _ p hp
      omega
  have hlate : ∀ p ∈ its, lateI q its p.i = isLate q p.o := fun p hp => by
    rw [Bool.eq_iff_iff, lateI_iff]
    constructor
    · rintro ⟨p', h1, h2, h3⟩
      rw [huniq p' h1 p hp h2] at h3
      exact h3
    · intro h; exact ⟨p, hp, rfl, h⟩
  have hz1 : lateI q its z.i = false := by
    cases hb : lateI q its z.i with
    | false => rfl
    | true =>
      obtain ⟨p, h1, h2, -⟩ := lateI_iff.1 hb
      exact absurd (h2.trans hz0) (hnz p h1)
  refine ⟨⟨fun p hp hL => ?_, fun p hp hL => ?_, fun p hp p' hp' e => ?_, fun D hD p hp hah j hj => ?_, fun i o ho => ?_⟩, hz0, hnz, huniq⟩
  · rcases List.mem_cons.1 hp with rfl | hp
    · exact hA.op p List.mem_cons_self rfl
    · obtain ⟨p', h1, rfl⟩ := List.mem_map.1 hp
      rw [litItem_i, hlate p' h1] at hL
      rw [litItem_no hL]
      exact hA.op p' (List.mem_cons_of_mem _ h1) rfl
  · rcases List.mem_cons.1 hp with rfl | hp
    · rw [hz1] at hL; cases hL
    · obtain ⟨p', h1, rfl⟩ := List.mem_map.1 hp
      rw [litItem_i, hlate p' h1] at hL
      rw [litItem_yes hL]
      rfl
  · rcases List.mem_cons.1 hp with e1 | m1 <;> rcases List.mem_cons.1 hp' with e2 | m2
    · rw [e1, e2]
    · obtain ⟨p2, h1, rfl⟩ := List.mem_map.1 m2
      rw [litItem_i, e1, hz0] at e
      exact absurd e.symm (hnz p2 h1)
    · obtain ⟨p2, h1, rfl⟩ := List.mem_map.1 m1
      rw [litItem_i, e2, hz0] at e
      exact absurd e (hnz p2 h1)
    · obtain ⟨p1, h1, rfl⟩ := List.mem_map.1 m1
      obtain ⟨p2, h2, rfl⟩ := List.mem_map.1 m2
      rw [litItem_i, litItem_i] at e
      rw [huniq p1 h1 p2 h2 e]
  · rcases List.mem_cons.1 hp with rfl | hp
    · exact hA.ahead D hD p List.mem_cons_self hah j hj
    · obtain ⟨p', h1, rfl⟩ := List.mem_map.1 hp
      rw [litItem_m] at hj
      exact hA.ahead D hD p' (List.mem_cons_of_mem _ h1) (fun e he hb => hah e (by rw [litItem_after]; exact he) hb) j hj
  · obtain ⟨p, h1, h2⟩ := hA.full i o ho
    rcases List.mem_cons.1 h1 with rfl | h1
    · exact ⟨p, List.mem_cons_self, h2⟩
    · exact ⟨litItem q p, List.mem_cons_of_mem _ (List.mem_map.2 ⟨p, h1, rfl⟩), by rw [litItem_i]; exact h2⟩

theorem items_ne : ∀ (l : List Oper) (i : Nat) (acc : List Nat), (itemsGo i acc l).Pairwise fun p p' => p.i ≠ p'.i
  | [], _, _ => .nil
  | o :: l, i, acc => .cons (fun p hp => by
      have h1 := items_le l _ _ p hp
      show i ≠ p.i
      omega) (items_ne l _ _)
theorem litEs_mem : ∀ {l : List (Value × Operand)} {t : Fr} {e : ME}, e ∈ (litEs l).f t ↔ ∃ k v, (k, v) ∈ l ∧ e = ⟨ofV k, (evB v).f t, 0⟩
  | [], t, e => ⟨fun h => (by cases h), fun ⟨_, _, h, _⟩ => (by cases h)⟩
  | (k, v) :: l, t, e => by
    show e ∈ _ :: (litEs l).f t ↔ _
    rw [List.mem_cons, litEs_mem (l := l)]
    constructor
    · rintro (rfl | ⟨k', v', h1, h2⟩)
      · exact ⟨k, v, List.mem_cons_self, rfl⟩
      · exact ⟨k', v', List.mem_cons_of_mem _ h1, h2⟩
    · rintro ⟨k', v', h1, rfl⟩
      rcases List.mem_cons.1 h1 with h1 | h1
      · cases h1; exact .inl rfl
      · exact .inr ⟨k', v', h1, rfl⟩
theorem litEs_keys : ∀ {l : List (Value × Operand)} {t : Fr}, ((litEs l).f t).map ME.key = l.map fun p => ofV p.1
  | [], _ => rfl
  | (k, v) :: l, t => by
    show ofV k :: ((litEs l).f t).map ME.key = _
    rw [litEs_keys (l := l)]
    rfl

section
variable {P : Program} {n m : Nat} {call : CallT} {ops : Array Oper}
theorem lit_ok {rd : Bool} (hm : P.follows .mixedOrders = true) (hc : CallOk P call) (rid : Nat) (ops : Array Oper) (hE : okE 0 ops.toList = true) : CodeOk P n call (.region rid ops true) (litB P n ops).f rd := by
  intro ro m t h k x r a w _ hf hs
  unfold litB at hf
  split at hf
  · cases hf
  rename_i z its hz
  split at hf
  · cases hf
  rename_i q hq
  simp only at hf
  split at hf
  case h_2 => cases hf
  rename_i hcond
  rw [Bool.and_eq_true, Bool.and_eq_true] at hcond
  obtain ⟨⟨hP, hokl⟩, hkeys⟩ := hcond
  have ok := okL_ok hokl
  obtain ⟨hkt, hkp⟩ := keysOk_ok hkeys
  obtain ⟨ha, hz0, hnz, huniq⟩ := litAll hz hq
  have hA := allOk ops
  rw [hz] at hA
  obtain ⟨g1, g2, g3, kt, e, kd, hty, hktd, hT⟩ := litOf_ok hq
  generalize hL : lateI q its = L at ha
  generalize hits2 : its.map (litItem q) = its2 at hf hP hokl ok ha
  generalize hall : z :: its2 = all at ha hP
  have hpl : ∀ p ∈ planF ops.size 1 its2, p ∈ its2 := fun p hp => planF_mem _ _ _ _ hp
  generalize planF ops.size 1 its2 = pl at hf hP hpl
  replace hP := okF_ok hP
  have hz0op : ops[0]? = some z.o := by have := hA.op z List.mem_cons_self rfl; rwa [hz0] at this
  have hLi : ∀ p ∈ its, L p.i = isLate q p.o := fun p hp => by
    rw [← hL, Bool.eq_iff_iff, lateI_iff]
    constructor
    · rintro ⟨p', h1, h2, h3⟩
      rw [huniq p' h1 p hp h2] at h3
      exact h3
    · intro h; exact ⟨p, hp, rfl, h⟩
  have hL0 : L 0 = false := by
    cases hb : L 0 with
    | false => rfl
    | true =>
      rw [← hL] at hb
      obtain ⟨p, h1, h2, -⟩ := lateI_iff.1 hb
      exact absurd h2 (hnz p h1)
  have hza : z ∈ all := by rw [← hall]; exact List.mem_cons_self
  have h2a : ∀ p ∈ its2, p ∈ all := fun p hp => by rw [← hall]; exact List.mem_cons_of_mem _ hp
  have ha2 : ∀ p ∈ all, p.i = 0 ∨ p ∈ its2 := fun p hp => by
    rw [← hall] at hp
    rcases List.mem_cons.1 hp with rfl | hp
    · exact .inl hz0
    · exact .inr hp
  have h2i : ∀ p ∈ its2, p.i ≠ 0 := fun p hp => by
    rw [← hits2] at hp
    obtain ⟨p', h1, rfl⟩ := List.mem_map.1 hp
    rw [litItem_i]
    exact hnz p' h1
  have hkl : ∀ p ∈ its, ∀ kv v, lateOf q p.o = some (kv, v) → kv ∈ (litKV q its).map (·.1) := fun p hp kv v hl => List.mem_map.2 ⟨(kv, v), List.mem_filterMap.2 ⟨p, hp, hl⟩, rfl⟩
  have hkpl : its.Pairwise fun p p' => ∀ kv v, lateOf q p.o = some (kv, v) → ∀ kv' v', lateOf q p'.o = some (kv', v') → (ofV kv').a = (ofV kv).a ∧ keysOk.keySame q.kt (ofV kv) (ofV kv') = false := by
    unfold litKV at hkp
    rw [List.pairwise_map, List.pairwise_filterMap] at hkp
    exact hkp.imp fun hh kv v h1 kv' v' h2 => hh (kv, v) h1 (kv', v') h2
  have happ : ∀ p ∈ its, ∀ p' ∈ its, p ≠ p' → ∀ kv v kv' v', lateOf q p.o = some (kv, v) → lateOf q p'.o = some (kv', v') → Instr.sameNow kd kv kv' = some false ∧ ofV kv ≠ ofV kv' ∧ (ofV kv').a = (ofV kv).a := by
    have hpp : its.Pairwise fun p p' => ∀ kv v kv' v', lateOf q p.o = some (kv, v) → lateOf q p'.o = some (kv', v') → (Instr.sameNow kd kv kv' = some false ∧ ofV kv ≠ ofV kv' ∧ (ofV kv').a = (ofV kv).a) ∧ (Instr.sameNow kd kv' kv = some false) := by
      refine hkpl.imp_of_mem fun {p p'} hp hp' hh kv v kv' v' h1 h2 => ?_
      obtain ⟨e1, e2⟩ := hh kv v h1 kv' v' h2
      obtain ⟨e3, e4, e5⟩ := keys_apart hT (hkt _ (hkl p hp _ _ h1)) (hkt _ (hkl p' hp' _ _ h2)) e1 e2
      exact ⟨⟨e3, e5, e1⟩, e4⟩
    have hsym : ∀ {l : List PS}, l.Pairwise (fun p p' => ∀ kv v kv' v', lateOf q p.o = some (kv, v) → lateOf q p'.o = some (kv', v') → (Instr.sameNow kd kv kv' = some false ∧ ofV kv ≠ ofV kv' ∧ (ofV kv').a = (ofV kv).a) ∧ (Instr.sameNow kd kv' kv = some false)) →
        ∀ p ∈ l, ∀ p' ∈ l, p ≠ p' → ∀ kv v kv' v', lateOf q p.o = some (kv, v) → lateOf q p'.o = some (kv', v') → Instr.sameNow kd kv kv' = some false ∧ ofV kv ≠ ofV kv' ∧ (ofV kv').a = (ofV kv).a := by
      intro l
      induction l with
      | nil => intro _ p hp; cases hp
      | cons y l ih =>
        intro hpw p hp p' hp' hne kv v kv' v' h1 h2
        obtain ⟨w1, w2⟩ := List.pairwise_cons.1 hpw
        rcases List.mem_cons.1 hp with e1 | hp <;> rcases List.mem_cons.1 hp' with e2 | hp'
        · exact absurd (e1.trans e2.symm) hne
        · exact (w1 p' hp' kv v kv' v' (e1 ▸ h1) h2).1
        · have := w1 p hp kv' v' kv v (e2 ▸ h2) h1
          exact ⟨this.2, fun e => this.1.2.1 e.symm, this.1.2.2.symm⟩
        · exact ih w2 p hp p' hp' hne kv v kv' v' h1 h2
    exact hsym hpp
  have hacyc : ∀ (i : Nat) (o : Oper), ops[i]? = some o → ∀ e ∈ o.after, Region.binds .any e = true → e.on < i := fun i o ho e he hb => by
    have := okE_ok 0 ops.toList hE i o (by simpa using ho) e he hb
    omega
  -- the beginning
  have hzc : clsO z.o.op < 2 := by rw [g1]; simp [clsO]
  have hpz := Pre.add (Pre.nil (ops := ops) (n := n) (all := all)) hza hP
  obtain ⟨z1, z2, z3, z4, -, hP2⟩ := okP_cons hP
  have htm : q.tm < n := z3 q.tm g2
  have hzs : seenBy ops z.o = [] := by unfold seenBy; rw [g1, g3]; rfl
  have hbit : (0 ||| 2 ^ z.i) = 1 := by rw [hz0]; rfl
  rw [hbit] at hP2 hpz
  let k' : KC := fun _ _ t h => k 0 0 t (h.put ((evB (.tmp q.tm)).f t).b (some (.lit ((litEs (litKV q its)).f t))))
  have hf : (planB P n ops [] pl).f call ((putF n (some q.tm)).f t (.map h.next)) ⟨h.t, h.next + 1⟩ k' = some x := hf
  have hrn := hs.rel.fresh
  have hdd : h.get h.next = none := by
    cases hg : h.get h.next with
    | none => rfl
    | some o => exact absurd (hs.rel.top _ _ hg) (Nat.lt_irrefl _)
  have hlag : Lag1 P ops z.i z.o t h.next (.map [] 0) (.map h.next) := fun ro Q K r a w g hr hn hi hob hs hK => by
    have hl := map_late (P := P) hr hn hi hob
    exact wp_value (v' := .map (some w.heap.size)) (w' := w.alloc (.map #[] 0)) (by rw [hz0]; exact hz0op) (wanted_none g3 _) (fun c e => by rw [g1] at e; cases e) (by simp [execOp, g1, Instr.makeMap]) (hK _ _ _ (.map (p := ⟨w.heap.size, 0, 0, 0⟩) (Ren.set_same _ _ _)) hl)
  have hmid0 : Mid P n m ops L [z] (fun _ => false) (fun i => if i = 0 then some h.next else none) r h w r ((putF n (some q.tm)).f t (.map h.next)) ⟨h.t, h.next + 1⟩ a w.drew := by
    refine ⟨hs.sz, hs.le, Marks.far (w := w) (w' := w.drew) (fun _ _ => rfl) hs.marks, fun p hp hh => ?_, fun _ e => (by cases e), fun i hi hno => ?_, fun p hp _ => ?_, fun p hp p' hp' _ _ j _ _ => ?_, fun p hp _ j hj => ?_, ?_⟩
    · rw [List.mem_singleton.1 hp] at hh; exact absurd hzc hh
    · have := hno z (List.mem_singleton.2 rfl) rfl
      rw [putF_ne hs.le hi (by rw [← g2]; exact this)]
      exact hs.fr i hi
    · rw [List.mem_singleton.1 hp]
      refine .inr ⟨t, .map h.next, fun d hd => (by rw [hzs] at hd; cases hd), fun d hd => ?_, .inr (.inr ⟨h.next, .map [] 0, by rw [g1]; rfl, by rw [hz0]; rfl, hlag, hrn, Nat.le_refl _, Nat.lt_succ_self _, fun o' ho => ?_⟩)⟩
      · rw [g2] at hd
        cases hd
        exact putF_eq hs.le htm
      · have ho' : h.get h.next = some o' := ho
        rw [hdd] at ho'; cases ho'
    · rw [List.mem_singleton.1 hp, List.mem_singleton.1 hp']
    · rw [List.mem_singleton.1 hp, hz0] at hj
      cases hj
      exact Nat.lt_succ_self _
    · have hd := Post.drew hs.rel
      exact ⟨hd.rel.sub (fun _ _ hi => hi) (Nat.le_succ _), r.le_refl, fun _ _ h => .inl h, Nat.le_succ _, Nat.le_refl _, fun _ _ _ => rfl, fun i o p h1 h2 => .inr ⟨i, o, p, h1, h2, rfl⟩, fun _ _ _ => rfl, rfl, rfl, rfl, ⟨Nat.le_refl _, fun _ _ => rfl⟩⟩
  have hlit0 : Lit q its h w h.next (fun _ => false) [z] (fun i => if i = 0 then some h.next else none) r ((putF n (some q.tm)).f t (.map h.next)) ⟨h.t, h.next + 1⟩ w.drew :=
    ⟨putF_eq hs.le htm, hdd, Nat.lt_succ_self _, Nat.le_refl _, rfl, ⟨z, List.mem_singleton.2 rfl, hz0⟩, fun _ _ e => (by cases e), fun _ => hrn, fun e => (by cases e)⟩
  let X : (Nat → Bool) → List PS → (Nat → Option Nat) → Ren → Fr → AH → World → Prop := fun D pre ids r t h' w' => Lit q its h w h.next D pre ids r t h' w'
  have hX : ∀ (D : Nat → Bool) (r' : Ren) (a' : Act) (w' : World), Keeps P n m ops L X all r h w D r' a' w' := fun D r' a' w' pre c ids t1 h1 p v h2 id' hm1 hp1 hpa hb _ hh _ hx => by
    have hpi : p ∈ its2 := by
      rcases ha2 p hpa with e | e
      · rw [e, (hp1.bits 0).2 hx.zin] at hb; cases hb
      · exact e
    exact Lit.soft ok hm1 hp1 hpi hb hh hx htm
  refine wpIn_region_any hm ?_
  let I : Array Bool → Act → World → Prop := fun listed a' w' => Still P n m call ops L X all k' x r h w (fun j => listed.getD j false) a' w' ∧ ∀ i o, ops[i]? = some o → listed.getD i false = true → Ahead (fun j => listed.getD j false) o
  have hD0 : (fun j => (Array.replicate ops.size false).getD j false) = fun _ => false := by
    funext j
    by_cases hj : j < ops.size <;> simp [hj]
  refine wpAny_inv (md := .any) I hacyc (fun listed a' w' i hsz hI hi => ?_) (fun listed a' w' hsz hdone hI => ?_) ops.size _ a _ (by simp) (by rw [Array.toList_replicate, cntF_rep]; exact Nat.le_refl _) ⟨?_, fun i o _ hl => ?_⟩
  · -- one is picked
    obtain ⟨⟨pre, l, done, c, ids, r', t', h', k1, kx, k2, k3, k4, k5, k6, k7⟩, hcl⟩ := hI
    obtain ⟨hl0, o, ho, hrd⟩ := mem_ready.1 hi
    have hlt : i < listed.size := by rw [hsz]; exact (Array.getElem?_eq_some_iff.1 ho).1
    have hDi : listed.getD i false = false := by simp [hlt] at hl0 ⊢; exact hl0
    have hah : Ahead (fun j => listed.getD j false) o := fun e he hb => hrd e he hb
    have hcl' : ∀ i' o', ops[i']? = some o' → (listed.setIfInBounds i true).getD i' false = true → Ahead (fun j => (listed.setIfInBounds i true).getD j false) o' := fun i' o' ho' hl' => by
      have e := withI_listed hlt
      have h1 : withI (fun j => listed.getD j false) i i' = true := by rw [← e]; exact hl'
      rw [e]
      rcases withI_true h1 with h1 | rfl
      · exact fun e he hb => withI_old (hcl i' o' ho' h1 e he hb)
      · rw [ho] at ho'
        cases ho'
        exact fun e he hb => withI_old (hah e he hb)
    have hclI : ∀ p ∈ its, withI (fun j => listed.getD j false) i p.i = true → ∀ j, Nat.testBit p.m j = true → withI (fun j => listed.getD j false) i j = true := fun p hp hw j hj => by
      rw [← withI_listed hlt] at hw ⊢
      exact hA.ahead (fun j => (listed.setIfInBounds i true).getD j false) hcl' p (List.mem_cons_of_mem _ hp) (hcl' p.i p.o (hA.op p (List.mem_cons_of_mem _ hp) rfl) hw) j hj
    have hmask : ∀ p ∈ all, p.i = i → ∀ j, Nat.testBit p.m j = true → listed.getD j false = true := fun p hp hpi => by
      refine ha.ahead (fun j => listed.getD j false) hcl p hp ?_
      rcases ha2 p hp with e | e
      · have : p = z := ha.uniq p hp z hza (e.trans hz0.symm)
        subst this
        have := hz0op
        rw [← e, hpi, ho] at this
        cases this
        exact hah
      · rw [← hits2] at e
        obtain ⟨p', h1, rfl⟩ := List.mem_map.1 e
        have := hA.op p' (List.mem_cons_of_mem _ h1) rfl
        rw [← litItem_i q p', hpi, ho] at this
        intro e he hb
        rw [litItem_after] at he
        cases this
        exact hah e he hb
    by_cases hin : ∃ p ∈ pre, p.i = i
    · obtain ⟨p, hpp, rfl⟩ := hin
      have hpa := k2.mem p hpp
      rcases ha2 p hpa with e | hp2
      · -- the literal itself
        have hpz : p = z := ha.uniq p hpa z hza (e.trans hz0.symm)
        subst hpz
        rw [hz0] at hDi hclI hlt hcl' ⊢
        refine Lit.made k1 k2 ha kx hpp hz0 hz0op hq hDi ok.z hclI hnz fun r2 a2 w2 hm2 hx2 => ⟨?_, hcl'⟩
        rw [withI_listed hlt]
        exact ⟨pre, l, done, c, ids, r2, t', h', hm2, hx2, k2, k3, k4, k5, k6, k7⟩
      · have hp2' := hp2
        rw [← hits2] at hp2'
        obtain ⟨p', hp', rfl⟩ := List.mem_map.1 hp2'
        have hop' := hA.op p' (List.mem_cons_of_mem _ hp') rfl
        cases hlate : isLate q p'.o with
        | true =>
          obtain ⟨kv, v, hkv⟩ := isLate_iff.1 hlate
          have hm' := hmask _ hpa rfl
          rw [litItem_m] at hm'
          have hdn : (litItem q p').o.dst = none := by rw [litItem_yes hlate]; rfl
          have hli := litItem_i q p'
          have hgo := Lit.laid (ro := ro) (Q := After P n m k x r h w) (K := I (listed.setIfInBounds (litItem q p').i true)) ok htm k1 k2 ha ha2 kx hty hktd hT (fun p hp p2 hp2 hne kv v kv' v' h1 h2 => (happ p hp p2 hp2 (fun e => hne (by rw [e])) kv v kv' v' h1 h2).1) hp' hpp hli hdn hop' hkv (by rw [← hli]; exact hDi) hm' (by rw [← hli]; exact hclI) (fun p2 hp2 e => huniq p2 hp2 p' hp' e) fun a2 w2 hm2 hx2 => ⟨by rw [withI_listed hlt, hli]; exact ⟨pre, l, done, c, ids, r', t', h', hm2, hx2, k2, k3, k4, k5, k6, k7⟩, hcl'⟩
          rw [hli] at hgo ⊢
          exact hgo
        | false =>
          have hLp : L (litItem q p').i = false := by rw [litItem_i, hLi p' hp']; exact hlate
          refine k1.pick k2 ha hpp hLp hDi (hmask _ hpa rfl) fun r2 a2 w2 hm2 hst => ⟨?_, hcl'⟩
          rw [withI_listed hlt]
          refine ⟨pre, l, done, c, ids, r2, t', h', hm2, Lit.stp kx (h2i _ hp2) (fun p2 hp2 e => ?_) hclI (fun hD0' e => ?_) hst, k2, k3, k4, k5, k6, k7⟩
          · rw [litItem_i] at e
            rw [huniq p2 hp2 p' hp' e]
            exact hlate
          · obtain ⟨z', hz1, hz2⟩ := kx.zin
            exact h2i _ hp2 ((k1.inj _ hpp z' hz1 hDi (by rw [hz2]; exact hD0') _ e (by rw [hz2]; exact kx.idz)).trans hz2)
    · have hbit : Nat.testBit c i = false := by
        cases hb : Nat.testBit c i with
        | false => rfl
        | true => exact absurd ((k2.bits i).1 hb) hin
      rcases okP_all k3 i (by omega) with e | ⟨p2, hq2, hqi⟩
      · rw [e] at hbit; cases hbit
      · cases l with
        | nil => cases hq2
        | cons p l =>
          have hh := k7 p l rfl
          have hpa := k4 p List.mem_cons_self
          have hpi : p.i = i := by
            rcases List.mem_cons.1 hq2 with rfl | hq2
            · exact hqi
            · have e1 := ((okP_cons k3).2.2.2.2.1 hh).1 p2 hq2
              have e2 := hmask p2 (k4 p2 (List.mem_cons_of_mem _ hq2)) hqi _ e1
              have e3 := (k2.bits p.i).2 (k1.sub _ e2)
              rw [(okP_cons k3).2.1] at e3
              cases e3
          subst hpi
          have hp2 : p ∈ its2 := by
            rcases ha2 p hpa with e | e
            · rw [e, (k2.bits 0).2 kx.zin] at hbit; cases hbit
            · exact e
          refine k1.hardStep hc k2 ha hpa k3 hh (hmask p hpa rfl) k5 k6 fun r2 t2 h2 a2 w2 hm2 hf2 hpost ⟨u, hu⟩ => ⟨?_, hcl'⟩
          rw [withI_listed hlt]
          have hx2 : X (withI (fun j => listed.getD j false) p.i) (p :: pre) ids r2 t2 h2 w2 := by
            rw [hu]
            refine Lit.hard ok hs.le htm kx hp2 hDi (h2i p hp2) (fun p' hp' e => ?_) hclI hpost
            cases hb : isLate q p'.o with
            | false => rfl
            | true =>
              have := hLi p' hp'
              rw [hb, e] at this
              exact absurd (ha.late p hpa this) (by omega)
          refine settle ha (hX _ _ _ _) l hm2 hx2 (k2.add hpa k3) (okP_cons k3).2.2.2.2.2 (fun q hq => k4 q (List.mem_cons_of_mem _ hq)) (fun q => ?_) hf2
          rw [k5 q]
          constructor
          · rintro ⟨h5, h6⟩
            exact ⟨List.mem_cons_of_mem _ h5, h6⟩
          · rintro ⟨h5, h6⟩
            rcases List.mem_cons.1 h5 with rfl | h5
            · exact absurd (by omega) hh
            · exact ⟨h5, h6⟩
  · -- all are done
    obtain ⟨⟨pre, l, done, c, ids, r', t', h', k1, kx, k2, k3, k4, k5, k6, k7⟩, hcl⟩ := hI
    have hDa : ∀ i, i < ops.size → listed.getD i false = true := fun i hi => by
      have := hdone i hi
      have h2 : i < listed.size := by omega
      simp [h2] at this ⊢
      exact this
    have hDits : ∀ p ∈ its, listed.getD p.i false = true := fun p hp => hDa _ (Array.getElem?_eq_some_iff.1 (hA.op p (List.mem_cons_of_mem _ hp) rfl)).1
    have hDz : listed.getD 0 false = true := hDa 0 (Array.getElem?_eq_some_iff.1 hz0op).1
    have hD : ∀ p ∈ all, listed.getD p.i false = true := fun p hp => by
      rcases ha2 p hp with e | e
      · rw [e]; exact hDz
      · rw [← hits2] at e
        obtain ⟨p', h1, rfl⟩ := List.mem_map.1 e
        rw [litItem_i]
        exact hDits p' h1
    cases l with
    | cons p l =>
      have e3 := (k2.bits p.i).2 (k1.sub _ (hD p (k4 p List.mem_cons_self)))
      rw [(okP_cons k3).2.1] at e3
      cases e3
    | nil =>
      obtain ⟨plc, cur, ck, c1, c2, c3, c4, c5, c6⟩ := kx.after hDz
      have hk6 : k 0 0 t' (h'.put ((evB (.tmp q.tm)).f t').b (some (.lit ((litEs (litKV q its)).f t')))) = some x := k6
      have hid : ((evB (.tmp q.tm)).f t').b = h.next := by
        rw [ev_get _ (Nat.lt_of_lt_of_le htm hs.le)]
        rw [show t'.get q.tm = .map h.next from kx.tmp]
        rfl
      rw [hid] at hk6
      have hlit : ObR P r' plc w' (.lit ((litEs (litKV q its)).f t')) := by
        refine .lit c2 (fun E hE => ?_) (fun e he => ?_) ?_ (fun e he f hf => ?_)
        · obtain ⟨p, q1, q2, kv, v, q3, q4, q5⟩ := c5 E hE
          exact ⟨_, litEs_mem.2 ⟨kv, v, List.mem_filterMap.2 ⟨p, q1, q3⟩, rfl⟩, by rw [q4]; exact VR_ofV r' kv, q5⟩
        · obtain ⟨kv, v, q1, rfl⟩ := litEs_mem.1 he
          obtain ⟨p, q2, q3⟩ := List.mem_filterMap.1 q1
          obtain ⟨E, q4, q5, q6⟩ := c6 p q2 (hDits p q2) kv v q3
          exact ⟨E, q4, by rw [q5]; exact VR_ofV r' kv, q6⟩
        · have h1 : (((litEs (litKV q its)).f t').map ME.key).Pairwise (· ≠ ·) := by
            rw [litEs_keys]
            have h2 : (litKV q its).Pairwise fun x y => ofV x.1 ≠ ofV y.1 := by
              unfold litKV
              rw [List.pairwise_filterMap]
              refine List.Pairwise.imp_of_mem (R := fun p p' => p ≠ p') (fun {p p'} hp hp' hne x hx y hy => ?_) ?_
              · exact (happ p hp p' hp' hne x.1 x.2 y.1 y.2 hx hy).2.1
              · have hnd : (z :: its).Pairwise fun p p' => p.i ≠ p'.i := by
                  rw [← hz]
                  exact items_ne _ _ _
                exact (List.pairwise_cons.1 hnd).2.imp fun h e => h (by rw [e])
            exact List.pairwise_map.2 h2
          exact List.pairwise_map.1 h1
        · obtain ⟨kv, v, q1, rfl⟩ := litEs_mem.1 he
          obtain ⟨kv', v', q1', rfl⟩ := litEs_mem.1 hf
          obtain ⟨p, q2, q3⟩ := List.mem_filterMap.1 q1
          obtain ⟨p', q2', q3'⟩ := List.mem_filterMap.1 q1'
          refine ⟨(hkt _ (hkl p q2 _ _ q3)).trans (hkt _ (hkl p' q2' _ _ q3')).symm, ?_⟩
          by_cases e : p = p'
          · subst e; rw [q3] at q3'; cases q3'; rfl
          · exact (happ p q2 p' q2' e kv v kv' v' q3 q3').2.2.symm
      have hg : ∀ i o, (h'.put h.next (some (.lit ((litEs (litKV q its)).f t')))).get i = some o → (i = h.next ∧ o = .lit ((litEs (litKV q its)).f t') ∧ h.next + 1 < 16777216) ∨ (i ≠ h.next ∧ h'.get i = some o) := fun i o hi => by
        rw [AH.get_put] at hi
        by_cases e : i = h.next
        · by_cases e2 : h.next + 1 < 16777216
          · rw [if_pos ⟨e, e2⟩] at hi; cases hi; exact .inl ⟨e, rfl, e2⟩
          · rw [if_neg (fun e3 => e2 e3.2), e, kx.dead] at hi; cases hi
        · rw [if_neg (fun e3 => e e3.1)] at hi; exact .inr ⟨e, hi⟩
      have hpo := k1.post
      have hpost : Post P r h w r' (h'.put h.next (some (.lit ((litEs (litKV q its)).f t')))) w' := by
        refine ⟨⟨fun i o hi => ?_, fun i o p hi hr => ?_, fun i j o1 o2 p1 p2 hi hj hr1 hr2 he => ?_, hpo.rel.dom, fun i o hi => ?_⟩, hpo.ext, hpo.new, hpo.nxt, hpo.size, hpo.frame, fun i o p hi hr => ?_, fun i hi hn => ?_, hpo.os, hpo.tape, hpo.output, hpo.froz.trans (AH.froz_put _ _ _)⟩
        · rcases hg i o hi with ⟨e, -, e2⟩ | ⟨-, e⟩
          · rw [e]; exact e2
          · exact hpo.rel.small i o e
        · rcases hg i o hi with ⟨e, e1, -⟩ | ⟨-, e⟩
          · rw [e, c1] at hr
            cases hr
            rw [e1]
            exact hlit
          · exact hpo.rel.live i o p e hr
        · rcases hg i o1 hi with ⟨e, -, -⟩ | ⟨e, e1⟩ <;> rcases hg j o2 hj with ⟨f, -, -⟩ | ⟨f, f1⟩
          · exact e.trans f.symm
          · rw [e, c1] at hr1
            cases hr1
            exact absurd he.symm (c4 j o2 p2 f1 hr2)
          · rw [f, c1] at hr2
            cases hr2
            exact absurd he (c4 i o1 p1 e1 hr1)
          · exact hpo.rel.inj i j o1 o2 p1 p2 e1 f1 hr1 hr2 he
        · rcases hg i o hi with ⟨e, -, -⟩ | ⟨-, e⟩
          · rw [e]; exact kx.lt
          · exact hpo.rel.top i o e
        · rcases hg i o hi with ⟨e, -, -⟩ | ⟨-, e⟩
          · rw [e, c1] at hr
            cases hr
            exact .inl c3
          · exact hpo.own i o p e hr
        · rw [AH.get_put, if_neg (fun e => by omega)]
          exact hpo.keep i hi hn
      exact ⟨0, 0, t', _, r', hk6, rfl, ⟨fun i hi => k1.fr i hi fun p hp hDp => (by rw [hD p (k2.mem p hp)] at hDp; cases hDp), k1.sz, k1.le, hpost.rel, k1.marks, Nat.le_trans hs.low hpost.size⟩, hpost⟩
  · -- the beginning
    rw [hD0]
    exact settle ha (hX _ _ _ _) pl hmid0 hlit0 hpz hP2 (fun p hp => h2a p (hpl p hp)) (fun p => ⟨fun e => (by cases e), fun e => (by rw [List.mem_singleton.1 e.1, g1] at e; cases e.2)⟩) hf
  · have : (fun j => (Array.replicate ops.size false).getD j false) i = true := hl
    rw [hD0] at this
    cases this

theorem draw_ok {rd : Bool} (hm : P.follows .mixedOrders = true) (hc : CallOk P call) (id : Nat) (ops : Array Oper) : CodeOk P n call (.region id ops true) (drawB P n ops).f rd := by
  unfold drawB
  split
  · rename_i hE
    exact draw1_ok hm hc id ops hE (lit_ok hm hc id ops hE)
  · exact fun ro m t h k x r a w _ hf => by cases hf
end
end Go.Proofs.YtfkdkbekmimhoaaGreatDoor
/- The machine for closed runs: ranges over functions; functions; calls. -/
namespace Go.Proofs.YtfkdkbekmimhoaaGreatDoor

theorem nthN_some {β : Type} {l : List Nat} {k : Nat → Option β} {x : β} (h : nthN l k = some x) : ∃ a l', l = a :: l' ∧ k a = some x := by
  cases l with
  | nil => cases h
  | cons a l' => exact ⟨a, l', rfl, h⟩

section
variable {P : Program} {n m : Nat} {call : CallT} {x : RV}
theorem Post.garbage {r : Ren} {h : AH} {w : World} (hr : Rel P r h w) (O : Obj) : Post P r h w r h (w.alloc O) :=
  ⟨⟨hr.small, fun i o p h1 h2 => (hr.live i o p h1 h2).same (heap_push_old w O (hr.dom _ _ h2).2), hr.inj, fun i p hp => ⟨(hr.dom i p hp).1, by have := (hr.dom i p hp).2; simp; omega⟩, hr.top⟩,
    r.le_refl, fun _ _ h => .inl h, Nat.le_refl _, by simp, fun b hb _ => heap_push_old w O hb, fun i o p h1 h2 => .inr ⟨i, o, p, h1, h2, rfl⟩, fun _ _ _ => rfl, rfl, rfl, rfl, Froz.refl _⟩

/-- A loop's record. -/
theorem loop_live {r : Ren} {h : AH} {w : World} (hr : Rel P r h w) {i : Nat} {ob : OB} {p : Pl} (hg : h.get i = some ob) (hk : ob.kind = 4) (hp : r i = some p) :
    ∃ L x o t ps asg body n, w.heap[p.blk]? = some (.loop L) ∧ ob = .loop x o ob.m (n, t, ps, asg, body) ∧ FrR r t L.tmps ∧ L.params.toList = ps ∧ L.assign = asg ∧ L.body = body ∧ L.state = stateOf ob.m ∧ L.pending = jumpOf x o ∧ L.tmps.size = n ∧ n ≤ 512 := by
  have := hr.live _ _ _ hg hp
  cases this with
  | arr _ _ _ _ _ _ => cases hk
  | map _ _ _ => cases hk
  | lit _ _ _ _ _ => cases hk
  | iter _ _ _ => cases hk
  | loop h1 h2 h3 h4 h5 h6 h7 h8 => exact ⟨_, _, _, _, _, _, _, _, h1, rfl, h2, h3, h4, h5, h6, h7, h8.1, h8.2⟩

theorem run_getLoop {w : World} {l : Nat} {L : Loop} (h : w.heap[l]? = some (.loop L)) : (Instr.getLoop l).run P w = .ok L w := by
  simp [Instr.getLoop, getObj, Sem.run, h]
theorem run_setLoop {w : World} {l : Nat} {L L' : Loop} (h : w.heap[l]? = some (.loop L)) : (setObj l (.loop L')).run P w = .ok () (wobj w l (.loop L')) := by
  simp [setObj, Sem.run, h, wobj]

theorem run_endLoop {w : World} {l : Nat} {L : Loop} (h : w.heap[l]? = some (.loop L)) (hst : (L.state == LoopState.busy) = false) : (Instr.endLoop l).run P w = .ok L.pending (wobj w l (.loop { L with state := .exhausted })) := by
  have e1 := run_setLoop (P := P) (L' := { L with state := .exhausted }) h
  unfold Instr.endLoop
  rw [Sem.run_bind, run_getLoop h, Result.andThen_ok]
  simp only [hst, Bool.false_eq_true, if_false]
  simp [e1]
theorem not_busy {m : Nat} (h : m ≠ 1) : (stateOf m == LoopState.busy) = false := by
  match m, h with
  | 0, _ => rfl
  | 1, h => exact absurd rfl h
  | 2, _ => rfl
  | _ + 3, _ => rfl
theorem marks_lt {m : Nat} {w : World} : ∀ {ds : List Deferred}, Marks m w ds → ∀ d ∈ ds, ∀ b, d.target = .collected b → b < w.heap.size
  | _, .nil, d, hd, _, _ => by cases hd
  | _, .cons _ h1 _ t, d, hd, b, hb => by
    rcases List.mem_cons.1 hd with rfl | hd
    · cases hb
      exact (Array.getElem?_eq_some_iff.1 h1).1
    · exact marks_lt t d hd b hb
theorem jump_ok {ro : Option Nat} {Q : Exit → Act → World → Prop} {a : Act} {w : World} : ∀ {y e : Nat}, Q (exitOf y e) a w → (match jumpOf y e with | none => Q .normal a w | some c => c.wpIn (fw ro) 0 P Q a w)
  | 0, _, h => h
  | 1, _, h => wpIn_exit h
  | _ + 2, _, h => wpIn_ret h
theorem rangeF_ok (hc : CallOk P call) (g : Operand) (ps : Array Tmp) (asg body : Code) : CodeOk P n call (.rangeFunc g ps asg body) (rangeFC n (evB g).f ps.toList asg body) false := by
  intro ro m t h k x r a w hro hf hs
  have hro := hro rfl
  subst hro
  obtain ⟨hy, hf⟩ := ifB_some hf
  refine wpIn_rangeFunc fun fn _ => ?_
  -- the record
  have hr := hs.rel
  have hp1 := Post.garbage hr (.deferred (some []))
  let L : Loop := { state := .ready, pending := none, fn, tmps := a.tmps, params := ps, assign := asg, body, defers := w.heap.size }
  have hL0 : ((w.alloc (.deferred (some []))).alloc (.loop L)).heap[w.heap.size + 1]? = some (.loop L) := by
    have e : (w.alloc (.deferred (some []))).heap.size = w.heap.size + 1 := by simp
    rw [← e]
    exact heap_push_new _ _
  have hp2 : Post P r h (w.alloc (.deferred (some []))) (r.set h.next ⟨w.heap.size + 1, 0, 0, 0⟩) (h.new (.loop 0 0 0 (n, t, ps.toList, asg, body))) ((w.alloc (.deferred (some []))).alloc (.loop L)) :=
    Post.alloc hp1.rel (by simp) (.loop (L := L) hL0 (hs.fr.mono (r.le_set _ hr.fresh)) rfl rfl rfl rfl rfl ⟨hs.sz, hs.le⟩)
  have hp := hp1.trans hp2
  have hset : (r.set h.next ⟨w.heap.size + 1, 0, 0, 0⟩) h.next = some ⟨w.heap.size + 1, 0, 0, 0⟩ := Ren.set_same _ _ _
  have hmk : ((w.alloc (.deferred (some []))).alloc (.loop L)).heap[w.heap.size]? = some (.deferred (some [])) := by
    rw [heap_push_old _ _ (by simp)]
    exact heap_push_new _ _
  obtain ⟨d, nx, h1, h2, h3, hent⟩ := valK_ok hc hf hp.rel ((evB_ok hs.fr g).mono hp.ext) (.cons (.yield hset) .nil : VRs _ [AV.yield h.next] (#[Value.func (.yield (w.heap.size + 1)) #[] #[]] : Array Value).toList)
  obtain ⟨f, args, rfl⟩ := hent hy
  refine ⟨w.heap.size + 1, [{ target := .collected w.heap.size, args := #[] }], (w.alloc (.deferred (some []))).alloc (.loop L), d, (w.alloc (.deferred (some []))).alloc (.loop L), f, args, (w.alloc (.deferred (some []))).alloc (.loop L), ?_, ?_, fun _ _ => trivial, h2, (fun e => by cases e), ?_⟩
  · simp [Instr.enterLoop, fw, L]
  · simpa [resolve, Act.eval] using h1
  refine CallsIn.mono (F := fw none) (R := fun e w' => ∃ v v' h' s, e = .returned v' ∧ (fun (_ : AV) (h2 : AH) => optK none (h2.get h.next) fun o => ifB (Nat.beq o.kind 4) (ifB (Nat.beq o.m 1) none (optK none o.lp fun lp => nthN o.ns fun x => k o.n x t (h2.put h.next (some (.loop o.n x 3 lp))))) none) v h' = some x ∧ VR s v v' ∧ Post P _ _ _ s h' w') h3 fun e w' he => ?_
  obtain ⟨v, v', h', s, rfl, h4, -, h6⟩ := he
  obtain ⟨o, h7, h4⟩ := optK_some h4
  obtain ⟨h8, h4⟩ := ifB_some h4
  have hsp : s h.next = some ⟨w.heap.size + 1, 0, 0, 0⟩ := h6.ext _ _ hset
  obtain ⟨L', y, e, t', ps', asg', body', n', q1, q2, q3, q4, q5, q6, q7, q8, q9, q10⟩ := loop_live h6.rel h7 (beq_of h8) hsp
  have hm1 : o.m ≠ 1 := fun e => by rw [e] at h4; cases h4
  have h4 : (optK none o.lp fun lp => nthN o.ns fun x => k o.n x t (h'.put h.next (some (.loop o.n x 3 lp)))) = some x := by
    have hb : Nat.beq o.m 1 = false := by
      cases hb : Nat.beq o.m 1 with
      | false => rfl
      | true => exact absurd (beq_of hb) hm1
    rw [hb] at h4
    exact h4
  rw [q2] at h4
  have h4 : k y e t (h'.put h.next (some (.loop y e 3 (n', t', ps', asg', body')))) = some x := h4
  have hend : (Instr.endLoop (w.heap.size + 1)).run P w' = .ok (jumpOf y e) (wobj w' (w.heap.size + 1) (.loop { L' with state := .exhausted })) := by
    rw [← q8]
    exact run_endLoop q1 (by rw [q7]; exact not_busy hm1)
  have hp3 := post_wobj h6.rel (O := .loop { L' with state := .exhausted }) (ob' := .loop y e 3 (n', t', ps', asg', body')) h7 hsp (.loop (L := { L' with state := .exhausted }) (wobj_get (Array.getElem?_eq_some_iff.1 q1).1) q3 q4 q5 q6 rfl q8 ⟨q9, q10⟩)
  have hpa := (hp.trans h6).trans hp3
  have hmarks : Marks m (wobj w' (w.heap.size + 1) (.loop { L' with state := .exhausted })) ({ target := .collected w.heap.size, args := #[] } :: a.defers) := by
    refine .cons hs.low ((h6.trans hp3).marked hp.rel hmk) (fun d hd e => ?_) (hs.marks.step hpa hr)
    exact Nat.lt_irrefl _ (marks_lt hs.marks d hd _ e)
  have hst2 : St P n m s t (h'.put h.next (some (.loop y e 3 (n', t', ps', asg', body')))) { a with defers := { target := .collected w.heap.size, args := #[] } :: a.defers } (wobj w' (w.heap.size + 1) (.loop { L' with state := .exhausted })) :=
    ⟨hs.fr.mono (Ren.le_trans hp.ext h6.ext), hs.sz, hs.le, hp3.rel, hmarks, Nat.le_trans hs.low hpa.size⟩
  exact ⟨jumpOf y e, _, hend, jump_ok (ro := none) (P := P) ⟨y, e, t, _, s, h4, rfl, hst2, hpa⟩⟩
end
end Go.Proofs.YtfkdkbekmimhoaaGreatDoor
/- The machine for closed runs: rounds; functions; every call. -/
namespace Go.Proofs.YtfkdkbekmimhoaaGreatDoor

section
variable {P : Program} {n m : Nat} {call : CallT} {x : RV}

theorem setTs_ok {r : Ren} {k : Fr → R} (hn : n ≤ 512) : ∀ (ps : List Tmp) (t : Fr) (xs : List AV) (as' : List Value) (tmps : Array Value), (setTs n ps).f t xs k = some x → VRs r xs as' → FrR r t tmps → tmps.size = n →
    ps.length = as'.length ∧ ∃ t', k t' = some x ∧ FrR r t' ((ps.zip as').foldl (fun tmps p => tmps.setIfInBounds p.1 p.2) tmps) ∧ ((ps.zip as').foldl (fun tmps p => tmps.setIfInBounds p.1 p.2) tmps).size = n
  | [], t, [], as', tmps, hf, hx, hfr, hs => by
    cases hx
    exact ⟨rfl, t, hf, hfr, hs⟩
  | [], t, _ :: _, as', tmps, hf, hx, hfr, hs => by cases hf
  | p :: ps, t, [], as', tmps, hf, hx, hfr, hs => by cases hf
  | p :: ps, t, y :: xs, as', tmps, hf, hx, hfr, hs => by
    cases hx with
    | @cons _ v _ vs hv hx =>
      have h1 := FrR.put (a := { tmps := tmps, defers := [] }) (n := n) hfr r.le_refl hn hs (some p) hv
      have h2 : FrR r ((putF n (some p)).f t y) (tmps.setIfInBounds p v) := h1
      obtain ⟨h3, t', h4, h5, h6⟩ := setTs_ok hn ps _ xs vs _ hf hx h2 (by simpa using hs)
      exact ⟨by simp [h3], t', h4, by simpa using h5, by simpa using h6⟩

theorem run_endRound {w : World} {l : Nat} {L : Loop} (h : w.heap[l]? = some (.loop L)) (j : Option Code) : (Instr.endRound l j).run P w = .ok (.bool j.isNone) (wobj w l (.loop { L with state := if j.isNone then .ready else .done, pending := j })) := by
  unfold Instr.endRound
  rw [Sem.run_bind, run_getLoop h, Result.andThen_ok, Sem.run_bind, run_setLoop h]
  rfl
theorem run_beginRound {w : World} {l : Nat} {L : Loop} (h : w.heap[l]? = some (.loop L)) (hs : L.state = .ready) : (Instr.beginRound l).run P w = .ok () (wobj w l (.loop { L with state := .busy })) := by
  unfold Instr.beginRound
  rw [Sem.run_bind, run_getLoop h, Result.andThen_ok, Sem.run_bind, run_setLoop h, Result.andThen_ok, hs]
  rfl
theorem run_yield {w : World} {l : Nat} {L : Loop} (h : w.heap[l]? = some (.loop L)) (args : Array Value) (hs : L.params.size = args.size) : (Instr.yield l args).run P w = .ok (.round l L.fn ((L.params.toList.zip args.toList).foldl (fun tmps p => tmps.setIfInBounds p.1 p.2) L.tmps) L.assign L.body) w := by
  unfold Instr.yield
  rw [Sem.run_bind, run_getLoop h, Result.andThen_ok]
  simp only [hs, ne_eq, not_true_eq_false, if_false]
  have : (L.params.zip args).foldl (fun tmps (x : Tmp × Value) => tmps.setIfInBounds x.1 x.2) L.tmps = (L.params.toList.zip args.toList).foldl (fun tmps p => tmps.setIfInBounds p.1 p.2) L.tmps := by
    rw [← Array.foldl_toList, Array.toList_zip]
  exact congrArg (fun z => Result.ok (Next.round l L.fn z L.assign L.body) w) this

theorem jump_none : ∀ {y e : Nat}, (jumpOf y e).isNone = Nat.beq y 0
  | 0, _ => rfl
  | 1, _ => rfl
  | _ + 2, _ => rfl
theorem round_post {l : Nat} {Rr : Ending → World → Prop} {a : Act} {w : World} {y e : Nat} (h : ∃ v w', (Instr.endRound l (jumpOf y e)).run P w = .ok v w' ∧ Rr (.returned v) w') : roundPost P l Rr (exitOf y e) a w := by
  match y, h with
  | 0, h => exact h
  | 1, h => exact h
  | _ + 2, h => exact h

/-- One round of a range over a function. -/
theorem round_ok (hcode : ∀ (n : Nat) (c : Code), CodeOk P n call c (codeB P n true c).f true) {l : Nat} {xs : List AV} {h : AH} {k : KV} {r : Ren} {p : Pl} {args : Array Value} {w : World} (hf : roundK P call l xs h k = some x) (hr : Rel P r h w) (hp : r l = some p) (hx : VRs r xs args.toList) :
    ∃ fn tmps asg body, (Instr.yield p.blk args).run P w = .ok (.round p.blk fn tmps asg body) w ∧ RoundIn Fence.wide 0 P p.blk fn tmps asg body w (fun e w' => ∃ v v' h' s, e = .returned v' ∧ k v h' = some x ∧ VR s v v' ∧ Post P r h w s h' w') := by
  obtain ⟨o, h1, hf⟩ := optK_some hf
  obtain ⟨h2, hf⟩ := ifB_some hf
  obtain ⟨L, xo, oo, t, ps, asg, body, n, q1, q2, q3, q4, q5, q6, q7, q8, q9, q10⟩ := loop_live hr h1 (beq_of h2) hp
  rw [q2] at hf
  obtain ⟨h3, t', h4, h5, h6⟩ := setTs_ok q10 ps t xs args.toList L.tmps hf hx q3 q9
  have hps : L.params.size = args.size := by
    have := congrArg List.length q4
    simp at this
    simp at h3
    omega
  rw [← q4] at h5 h6
  refine ⟨_, _, _, _, run_yield q1 args hps, roundIn_of_wpIn trivial ?_⟩
  rw [q5, q6]
  have hst : St P n 0 r t' h { tmps := (L.params.toList.zip args.toList).foldl (fun tmps p => tmps.setIfInBounds p.1 p.2) L.tmps, defers := [] } w := ⟨h5, h6, q10, hr, .nil, Nat.zero_le _⟩
  refine wpIn_mono (F := fw (some p.blk)) (hcode n asg (some p.blk) 0 t' h _ x r _ w (fun e => by cases e) h4 hst) fun e a1 w1 he => ?_
  obtain ⟨y, o1, t1, h1', s, g1, rfl, g2, g3⟩ := he
  obtain ⟨g4, g1⟩ := ifB_some g1
  have := beq_of g4
  subst this
  obtain ⟨o2, g5, g1⟩ := optK_some g1
  obtain ⟨g6, g1⟩ := ifB_some g1
  obtain ⟨g7, g1⟩ := ifB_some g1
  have hsp : s l = some p := g3.ext _ _ hp
  obtain ⟨L2, x2, e2, t2, ps2, asg2, body2, n2, r1, r2, r3, r4, r5, r6, r7, r8, r9, r10⟩ := loop_live g2.rel g5 (beq_of g6) hsp
  rw [r2] at g1
  rw [beq_of g7] at r7
  have hb := run_beginRound (P := P) r1 r7
  refine ⟨_, hb, ?_⟩
  have hp2 := post_wobj g2.rel (O := .loop { L2 with state := .busy }) (ob' := .loop x2 e2 1 (n2, t2, ps2, asg2, body2)) g5 hsp (.loop (L := { L2 with state := .busy }) (wobj_get (Array.getElem?_eq_some_iff.1 r1).1) r3 r4 r5 r6 rfl r8 ⟨r9, r10⟩)
  have g1 : (codeB P n true body).f call t1 (h1'.put l (some (.loop x2 e2 1 (n2, t2, ps2, asg2, body2)))) (fun y e _ h => optK none (h.get l) fun o => ifB (Nat.beq o.kind 4) (optK none o.lp fun lp3 =>
        k (.bool (Nat.beq y 0)) (h.put l (some (.loop y e (ifB (Nat.beq y 0) 0 2) lp3)))) none) = some x := g1
  have hst2 : St P n 0 s t1 (h1'.put l (some (.loop x2 e2 1 (n2, t2, ps2, asg2, body2)))) a1 (wobj w1 p.blk (.loop { L2 with state := .busy })) := ⟨g2.fr, g2.sz, g2.le, hp2.rel, g2.marks.step hp2 g2.rel, Nat.zero_le _⟩
  refine wpIn_mono (F := fw (some p.blk)) (hcode n body (some p.blk) 0 t1 _ _ x s a1 _ (fun e => by cases e) g1 hst2) fun e a2 w2 he => ?_
  obtain ⟨y, e3, t3, h3', s3, u1, rfl, u2, u3⟩ := he
  obtain ⟨o3, u4, u1⟩ := optK_some u1
  obtain ⟨u5, u1⟩ := ifB_some u1
  have hsp3 : s3 l = some p := u3.ext _ _ hsp
  obtain ⟨L3, x3, e4, t4, ps3, asg3, body3, n3, v1, v2, v3, v4, v5, v6, v7, v8, v9, v10⟩ := loop_live u2.rel u4 (beq_of u5) hsp3
  rw [v2] at u1
  have u1 : k (.bool (Nat.beq y 0)) (h3'.put l (some (.loop y e3 (ifB (Nat.beq y 0) 0 2) (n3, t4, ps3, asg3, body3)))) = some x := u1
  have hs3 : (if (jumpOf y e3).isNone then LoopState.ready else LoopState.done) = stateOf (ifB (Nat.beq y 0) 0 2) := by
    rw [jump_none]
    cases Nat.beq y 0 <;> rfl
  have hp3 := post_wobj u2.rel (O := .loop { L3 with state := if (jumpOf y e3).isNone then .ready else .done, pending := jumpOf y e3 }) (ob' := .loop y e3 (ifB (Nat.beq y 0) 0 2) (n3, t4, ps3, asg3, body3)) u4 hsp3
    (.loop (L := { L3 with state := if (jumpOf y e3).isNone then .ready else .done, pending := jumpOf y e3 }) (wobj_get (Array.getElem?_eq_some_iff.1 v1).1) v3 v4 v5 v6 hs3 rfl ⟨v9, v10⟩)
  refine round_post ⟨_, _, run_endRound v1 _, .bool (Nat.beq y 0), _, _, s3, rfl, u1, ?_, ((g3.trans hp2).trans u3).trans hp3⟩
  rw [jump_none]
  exact .bool _
end
end Go.Proofs.YtfkdkbekmimhoaaGreatDoor
