/- FlowBlocks: for every flow the law returns true and its argument reads as before; no condition but that the listed tables are laid, which the card ties to the text. Part 7 of 8. -/
import Derived.Test.YtlclpcobblojnaaGreatDoorBlo06
import Derived.Maps.RangeRun
/- The machine for closed runs: a map literal whose entries are laid in any order. -/
namespace Go.Proofs.YtlclpcobblojnaaGreatDoor

theorem litOf_ok {P : Program} {o : Oper} {q : LitP} (h : litOf P o = some q) : o.op = .makeMap q.ty none ∧ o.dst = some q.tm ∧ o.guard = none ∧ ∃ kt e kd, P.underlying q.ty = some (.map kt e) ∧ P.underlying kt = some kd ∧ keyTag (some kd) = some q.kt := by
  unfold litOf at h
  split at h
  · rename_i ty d h1 h2 h3
    split at h
    · rename_i kt e h4
      cases h5 : P.underlying kt with
      | none => rw [h5] at h; cases h
      | some kd =>
        rw [h5] at h
        cases h6 : keyTag (some kd) with
        | none => rw [h6] at h; cases h
        | some T =>
          rw [h6] at h
          cases h
          exact ⟨h1, h2, h3, kt, e, kd, h4, h5, h6⟩
    · cases h
  · cases h
theorem lateOf_ok {o : Oper} {q : LitP} {k : Value} {v : Operand} (h : lateOf q o = some (k, v)) : o.op = .insert q.ty (.tmp q.tm) (.const k) v ∧ o.dst = none ∧ o.guard = none := by
  unfold lateOf at h
  split at h
  · rename_i ty d k' v' h1 h2 h3
    split at h
    · rename_i h4
      cases h
      rw [Bool.and_eq_true] at h4
      have e1 := beq_of h4.1
      have e2 := beq_of h4.2
      subst e1 e2
      exact ⟨h1, h2, h3⟩
    · cases h
  · cases h
theorem isLate_iff {q : LitP} {o : Oper} : isLate q o = true ↔ ∃ k v, lateOf q o = some (k, v) := by
  unfold isLate
  rw [Option.isSome_iff_exists]
  constructor
  · rintro ⟨⟨k, v⟩, h⟩; exact ⟨k, v, h⟩
  · rintro ⟨k, v, h⟩; exact ⟨_, h⟩

/-- What is tested of a literal. -/
structure OkL (q : LitP) (ops : Array Oper) (its its2 : List PS) : Prop where
  tm : ∀ p ∈ its2, p.o.dst ≠ some q.tm
  z : ∀ l ∈ its, isLate q l.o = true → Nat.testBit l.m 0 = true
  sees : ∀ l ∈ its, isLate q l.o = true → ∀ p ∈ its2, ∀ d, p.o.dst = some d → d ∈ seenBy ops l.o → Nat.testBit l.m p.i = true
theorem okL_ok {q : LitP} {ops : Array Oper} {its its2 : List PS} (h : okL q ops its its2 = true) : OkL q ops its its2 := by
  unfold okL at h
  simp only [Bool.and_eq_true, List.all_eq_true, Bool.or_eq_true, Bool.not_eq_true'] at h
  obtain ⟨h1, h2⟩ := h
  have h3 : ∀ l ∈ its, isLate q l.o = true → Nat.testBit l.m 0 = true ∧ ∀ p ∈ its2, (match p.o.dst with | some d => !(seenBy ops l.o).elem d || Nat.testBit l.m p.i | none => true) = true := fun l hl he => by
    rcases h2 l hl with h | h
    · rw [he] at h; cases h
    · exact h
  refine ⟨fun p hp e => ?_, fun l hl he => (h3 l hl he).1, fun l hl he p hp d hd hs => ?_⟩
  · have := h1 p hp
    rw [e] at this
    simp at this
  · have := (h3 l hl he).2 p hp
    rw [hd] at this
    simp only [Bool.or_eq_true, Bool.not_eq_true'] at this
    rcases this with h | h
    · have : (seenBy ops l.o).elem d = true := by simpa using hs
      rw [this] at h; cases h
    · exact h
theorem keysOk_ok {T : Nat} : ∀ {l : List Value}, keysOk T l = true → (∀ k ∈ l, (ofV k).tag = T) ∧ l.Pairwise fun k k' => (ofV k').a = (ofV k).a ∧ keysOk.keySame T (ofV k) (ofV k') = false
  | [], _ => ⟨fun _ h => (by cases h), .nil⟩
  | k :: l, h => by
    unfold keysOk at h
    simp only [Bool.and_eq_true, List.all_eq_true, Bool.not_eq_true'] at h
    obtain ⟨h1, h2, h3⟩ := h
    obtain ⟨h4, h5⟩ := keysOk_ok h3
    refine ⟨fun x hx => ?_, .cons (fun x hx => ?_) h5⟩
    · rcases List.mem_cons.1 hx with rfl | hx
      · exact beq_of h1
      · exact h4 x hx
    · exact ⟨beq_of (h2 x hx).1, (h2 x hx).2⟩
/-- Two keys are not the same. -/
theorem keys_apart {kd : TypeDesc} {T : Nat} {k k' : Value} (hT : keyTag (some kd) = some T) (h1 : (ofV k).tag = T) (h2 : (ofV k').tag = T) (h3 : (ofV k').a = (ofV k).a) (h4 : keysOk.keySame T (ofV k) (ofV k') = false) : Instr.sameNow kd k k' = some false ∧ Instr.sameNow kd k' k = some false ∧ ofV k ≠ ofV k' := by
  have v1 := VR_ofV (fun _ => none) k
  have v2 := VR_ofV (fun _ => none) k'
  have hne : ofV k ≠ ofV k' := fun e => by
    rw [e] at h4
    unfold keysOk.keySame at h4
    split at h4 <;> simp at h4
  rcases keyDesc hT with ⟨kk, rfl⟩ | rfl
  · cases hT
    obtain ⟨k1, e1, e2⟩ := v1.inv0 h1
    obtain ⟨k2, e3, e4⟩ := v2.inv0 h2
    have : k1 = k2 := kindN_inj (e2.symm.trans (h3.symm.trans e4))
    subst this
    have hi : (ofV k).i ≠ (ofV k').i := by simpa [keysOk.keySame] using h4
    refine ⟨?_, ?_, hne⟩ <;> (rw [e1, e3]; simp [Instr.sameNow])
    · exact hi
    · exact fun e => hi e.symm
  · cases hT
    obtain ⟨s1, e1, e2⟩ := v1.inv2 h1
    obtain ⟨s2, e3, e4⟩ := v2.inv2 h2
    have hi : (ofV k).s ≠ (ofV k').s := by simpa [keysOk.keySame] using h4
    have hs : s1 ≠ s2 := fun e => hi (by rw [e2, e4, e])
    refine ⟨?_, ?_, hne⟩ <;> (rw [e1, e3]; simp only [Instr.sameNow])
    · have : (s1 == s2) = false := by
        cases hb : s1 == s2 with
        | false => rfl
        | true => exact absurd ((bytes_beq _ _).1 hb) hs
      show some (s1 == s2) = _
      rw [this]
    · have : (s2 == s1) = false := by
        cases hb : s2 == s1 with
        | false => rfl
        | true => exact absurd ((bytes_beq _ _).1 hb).symm hs
      show some (s2 == s1) = _
      rw [this]

theorem Rel.off {P : Program} {r : Ren} {h : AH} {w w' : World} {b : Nat} (hr : Rel P r h w) (hno : ∀ i o p, h.get i = some o → r i = some p → p.blk ≠ b) (hw : ∀ c, c ≠ b → w'.heap[c]? = w.heap[c]?) (hz : w'.heap.size = w.heap.size) : Rel P r h w' :=
  ⟨hr.small, fun i o p h1 h2 => (hr.live i o p h1 h2).same (hw _ (hno i o p h1 h2)), hr.inj, fun i p hp => by have := hr.dom i p hp; omega, hr.top⟩
theorem Marks.keep {m : Nat} {w w' : World} (hw : ∀ (b : Nat) (d : Option (List Deferred)), w.heap[b]? = some (.deferred d) → w'.heap[b]? = w.heap[b]?) : ∀ {ds : List Deferred}, Marks m w ds → Marks m w' ds
  | _, .nil => .nil
  | _, .cons h0 h1 h2 t => .cons h0 ((hw _ _ h1).trans h1) h2 (Marks.keep hw t)

section
variable {P : Program} {n m : Nat} {call : CallT} {ops : Array Oper} {L : Nat → Bool} {q : LitP} {its its2 all pre l done : List PS} {c id : Nat} {D : Nat → Bool} {ids : Nat → Option Nat} {r0 r : Ren} {h0 h : AH} {w0 w : World} {t : Fr} {a : Act} {k : KC} {x : AV × AH} {ro : Option Nat} {Q : Exit → Act → World → Prop} {K : Act → World → Prop}

/-- A literal on the way. -/
structure Lit (q : LitP) (its : List PS) (h0 : AH) (w0 : World) (id : Nat) (D : Nat → Bool) (pre : List PS) (ids : Nat → Option Nat) (r : Ren) (t : Fr) (h : AH) (w : World) : Prop where
  tmp : t.get q.tm = .map id
  dead : h.get id = none
  lt : id < h.next
  lo : h0.next ≤ id
  idz : ids 0 = some id
  zin : ∃ p ∈ pre, p.i = 0
  cl : ∀ p ∈ its, D p.i = true → ∀ j, Nat.testBit p.m j = true → D j = true
  before : D 0 = false → r id = none
  after : D 0 = true → ∃ pl cur c, r id = some pl ∧ w.heap[pl.blk]? = some (.map cur c) ∧ w0.heap.size ≤ pl.blk ∧ (∀ i o p, h.get i = some o → r i = some p → p.blk ≠ pl.blk) ∧
    (∀ E ∈ cur.toList, ∃ p ∈ its, D p.i = true ∧ ∃ k v, lateOf q p.o = some (k, v) ∧ E.key = k ∧ VR r ((evB v).f t) E.val) ∧
    (∀ p ∈ its, D p.i = true → ∀ k v, lateOf q p.o = some (k, v) → ∃ E ∈ cur.toList, E.key = k ∧ VR r ((evB v).f t) E.val)

theorem ev_putF {n : Nat} {d : Option Tmp} {t : Fr} {u : AV} {v : Operand} (hn : n ≤ 512) (h : ∀ e, v = .tmp e → d ≠ some e) : (evB v).f ((putF n d).f t u) = (evB v).f t := by
  cases v with
  | tmp e =>
    by_cases he : e < 512
    · rw [ev_get _ he, ev_get _ he, putF_ne hn he (h e rfl)]
    · rw [ev_big _ he, ev_big _ he]
  | const v => rfl
  | func f => rfl
  | global g => rfl
theorem late_seen {o : Oper} {k : Value} {v : Operand} {e : Nat} (h : lateOf q o = some (k, v)) (hv : v = .tmp e) : e ∈ seenBy ops o := by
  obtain ⟨h1, -, -⟩ := lateOf_ok h
  unfold seenBy
  refine List.mem_append_right _ ?_
  rw [h1, hv]
  simp [Op.operands, tmpsOf]
theorem late_tm {o : Oper} {k : Value} {v : Operand} (h : lateOf q o = some (k, v)) : q.tm ∈ seenBy ops o := by
  obtain ⟨h1, -, -⟩ := lateOf_ok h
  unfold seenBy
  refine List.mem_append_right _ ?_
  rw [h1]
  simp [Op.operands, tmpsOf]

/-- What was laid stays as another temporary is put. -/
theorem Lit.evs (ok : OkL q ops its its2) (hn : n ≤ 512) {p : PS} (hp : p ∈ its2) (hnot : ∀ l ∈ its, D l.i = true → Nat.testBit l.m p.i = false) {u : AV} {l : PS} (hl : l ∈ its) (hD : D l.i = true) {k : Value} {v : Operand} (hk : lateOf q l.o = some (k, v)) : (evB v).f ((putF n p.o.dst).f t u) = (evB v).f t :=
  ev_putF hn fun e he hd => by
    have := ok.sees l hl (isLate_iff.2 ⟨k, v, hk⟩) p hp e hd (late_seen hk he)
    rw [hnot l hl hD] at this
    cases this

/-- One more is reckoned. -/
theorem Lit.soft (ok : OkL q ops its its2) (hm : Mid P n m ops L pre D ids r0 h0 w0 r t h a w) (hp : Pre ops n all pre c) {p : PS} (hpa : p ∈ its2) (hb : Nat.testBit c p.i = false) {h1 : AH} {id' : Option Nat} {u : AV} (hh : h1 = h ∨ ∃ ob, h1 = h.new ob)
    (hx : Lit q its h0 w0 id D pre ids r t h w) (htm : q.tm < n) : Lit q its h0 w0 id D (p :: pre) (fun i => if i = p.i then id' else ids i) r ((putF n p.o.dst).f t u) h1 w := by
  have hget : ∀ i o, h1.get i = some o → i = h.next ∨ h.get i = some o := fun i o hi => by
    rcases hh with rfl | ⟨ob, rfl⟩
    · exact .inr hi
    · rw [AH.get_new] at hi
      split at hi
      · rename_i e; exact .inl e.1
      · exact .inr hi
  have hnx : h.next ≤ h1.next := by
    rcases hh with rfl | ⟨ob, rfl⟩
    · exact Nat.le_refl _
    · simp
  have hnz : p.i ≠ 0 := fun e => by
    have := (hp.bits 0).2 hx.zin
    rw [e, this] at hb
    cases hb
  have hnot : ∀ l ∈ its, D l.i = true → Nat.testBit l.m p.i = false := fun l hl hD => by
    cases hbt : Nat.testBit l.m p.i with
    | false => rfl
    | true =>
      obtain ⟨p', h1, h2⟩ := hm.sub _ (hx.cl l hl hD _ hbt)
      rw [(hp.bits p.i).2 ⟨p', h1, h2⟩] at hb
      cases hb
  refine ⟨?_, ?_, Nat.lt_of_lt_of_le hx.lt hnx, hx.lo, ?_, ?_, hx.cl, hx.before, fun hD => ?_⟩
  · rw [putF_ne hm.le (Nat.lt_of_lt_of_le htm hm.le) (ok.tm p hpa)]
    exact hx.tmp
  · cases hg : h1.get id with
    | none => rfl
    | some o =>
      rcases hget id o hg with e | e
      · have := hx.lt; omega
      · rw [hx.dead] at e; cases e
  · rw [if_neg (fun e => hnz e.symm)]
    exact hx.idz
  · obtain ⟨p', h1, h2⟩ := hx.zin
    exact ⟨p', List.mem_cons_of_mem _ h1, h2⟩
  · obtain ⟨pl, cur, c, k1, k2, k3, k4, k5, k6⟩ := hx.after hD
    refine ⟨pl, cur, c, k1, k2, k3, fun i o p' hi hr => ?_, fun E hE => ?_, fun l hl hDl k v hk => ?_⟩
    · rcases hget i o hi with e | e
      · rw [e, hm.post.rel.fresh] at hr; cases hr
      · exact k4 i o p' e hr
    · obtain ⟨l, q1, q2, k, v, q3, q4, q5⟩ := k5 E hE
      exact ⟨l, q1, q2, k, v, q3, q4, by rw [Lit.evs ok hm.le hpa hnot q1 q2 q3]; exact q5⟩
    · obtain ⟨E, q1, q2, q3⟩ := k6 l hl hDl k v hk
      exact ⟨E, q1, q2, by rw [Lit.evs ok hm.le hpa hnot hl hDl hk]; exact q3⟩

/-- One that was reckoned is done, and is no entry. -/
theorem Lit.stp (hx : Lit q its h0 w0 id D pre ids r t h w) {i : Nat} (hi0 : i ≠ 0) (hni : ∀ p ∈ its, p.i = i → isLate q p.o = false) (hcl : ∀ p ∈ its, withI D i p.i = true → ∀ j, Nat.testBit p.m j = true → withI D i j = true) {id' : Option Nat} (hid : D 0 = false → id' ≠ some id) {r' : Ren} {w' : World} (hs : Stp r w id' r' w') : Lit q its h0 w0 id (withI D i) pre ids r' t h w' := by
  have h0' : withI D i 0 = D 0 := by
    unfold withI
    have : Nat.beq 0 i = false := by
      cases hb : Nat.beq 0 i with
      | false => rfl
      | true => exact absurd (beq_of hb).symm hi0
    rw [this, Bool.or_false]
  have hold : ∀ p ∈ its, isLate q p.o = true → withI D i p.i = true → D p.i = true := fun p hp hl hD => by
    rcases withI_true hD with e | e
    · exact e
    · rw [hni p hp e] at hl; cases hl
  refine ⟨hx.tmp, hx.dead, hx.lt, hx.lo, hx.idz, hx.zin, hcl, fun hD => ?_, fun hD => ?_⟩
  · rw [h0'] at hD
    cases hr : r' id with
    | none => rfl
    | some pl =>
      rcases hs.new id pl hr with e | ⟨e, -⟩
      · rw [hx.before hD] at e; cases e
      · exact absurd e (hid hD)
  · rw [h0'] at hD
    obtain ⟨pl, cur, c, k1, k2, k3, k4, k5, k6⟩ := hx.after hD
    have hlt : pl.blk < w.heap.size := (Array.getElem?_eq_some_iff.1 k2).1
    refine ⟨pl, cur, c, hs.ext _ _ k1, (hs.frame _ hlt).trans k2, k3, fun i o p' hi hr => ?_, fun E hE => ?_, fun l hl hDl k v hk => ?_⟩
    · rcases hs.new i p' hr with e | ⟨-, e⟩
      · exact k4 i o p' hi e
      · omega
    · obtain ⟨l, q1, q2, k, v, q3, q4, q5⟩ := k5 E hE
      exact ⟨l, q1, withI_old q2, k, v, q3, q4, q5.mono hs.ext⟩
    · obtain ⟨E, q1, q2, q3⟩ := k6 l hl (hold l hl (isLate_iff.2 ⟨k, v, hk⟩) hDl) k v hk
      exact ⟨E, q1, q2, q3.mono hs.ext⟩

/-- One that does more is done. -/
theorem Lit.hard (ok : OkL q ops its its2) (hn : n ≤ 512) (htm : q.tm < n) (hx : Lit q its h0 w0 id D pre ids r t h w) {p : PS} (hpa : p ∈ its2) (hDp : D p.i = false) (hi0 : p.i ≠ 0) (hni : ∀ p' ∈ its, p'.i = p.i → isLate q p'.o = false) (hcl : ∀ p' ∈ its, withI D p.i p'.i = true → ∀ j, Nat.testBit p'.m j = true → withI D p.i j = true)
    {r' : Ren} {h' : AH} {w' : World} (hP : Post P r h w r' h' w') {u : AV} : Lit q its h0 w0 id (withI D p.i) (p :: pre) ids r' ((putF n p.o.dst).f t u) h' w' := by
  have h0' : withI D p.i 0 = D 0 := by
    unfold withI
    have : Nat.beq 0 p.i = false := by
      cases hb : Nat.beq 0 p.i with
      | false => rfl
      | true => exact absurd (beq_of hb).symm hi0
    rw [this, Bool.or_false]
  have hold : ∀ p' ∈ its, isLate q p'.o = true → withI D p.i p'.i = true → D p'.i = true := fun p' hp hl hD => by
    rcases withI_true hD with e | e
    · exact e
    · rw [hni p' hp e] at hl; cases hl
  have hnot : ∀ l ∈ its, D l.i = true → Nat.testBit l.m p.i = false := fun l hl hD => by
    cases hbt : Nat.testBit l.m p.i with
    | false => rfl
    | true => rw [hx.cl l hl hD _ hbt] at hDp; cases hDp
  have hdead : h'.get id = none := by
    cases hD : D 0 with
    | false => rw [hP.keep id hx.lt (hx.before hD)]; exact hx.dead
    | true =>
      obtain ⟨pl, cur, c, k1, k2, k3, k4, k5, k6⟩ := hx.after hD
      have hlt : pl.blk < w.heap.size := (Array.getElem?_eq_some_iff.1 k2).1
      cases hg : h'.get id with
      | none => rfl
      | some o =>
        rcases hP.own id o pl hg (hP.ext _ _ k1) with e | ⟨j, o', p', e1, e2, e3⟩
        · omega
        · exact absurd e3 (k4 j o' p' e1 e2)
  refine ⟨?_, hdead, Nat.lt_of_lt_of_le hx.lt hP.nxt, hx.lo, hx.idz, ?_, hcl, fun hD => ?_, fun hD => ?_⟩
  · rw [putF_ne hn (Nat.lt_of_lt_of_le htm hn) (ok.tm p hpa)]
    exact hx.tmp
  · obtain ⟨p', h1, h2⟩ := hx.zin
    exact ⟨p', List.mem_cons_of_mem _ h1, h2⟩
  · rw [h0'] at hD
    cases hr : r' id with
    | none => rfl
    | some pl =>
      rcases hP.new id pl hr with e | e
      · rw [hx.before hD] at e; cases e
      · have := hx.lt; omega
  · rw [h0'] at hD
    obtain ⟨pl, cur, c, k1, k2, k3, k4, k5, k6⟩ := hx.after hD
    have hlt : pl.blk < w.heap.size := (Array.getElem?_eq_some_iff.1 k2).1
    refine ⟨pl, cur, c, hP.ext _ _ k1, (hP.frame _ hlt k4).trans k2, k3, fun i o p' hi hr e => ?_, fun E hE => ?_, fun l hl hDl k v hk => ?_⟩
    · rcases hP.own i o p' hi hr with e1 | ⟨j, o', p2, e1, e2, e3⟩
      · omega
      · exact k4 j o' p2 e1 e2 (e3.trans e)
    · obtain ⟨l, q1, q2, k, v, q3, q4, q5⟩ := k5 E hE
      exact ⟨l, q1, withI_old q2, k, v, q3, q4, by rw [Lit.evs ok hn hpa hnot q1 q2 q3]; exact q5.mono hP.ext⟩
    · have hDl' := hold l hl (isLate_iff.2 ⟨k, v, hk⟩) hDl
      obtain ⟨E, q1, q2, q3⟩ := k6 l hl hDl' k v hk
      exact ⟨E, q1, q2, by rw [Lit.evs ok hn hpa hnot hl hDl' hk]; exact q3.mono hP.ext⟩

theorem wp_nothing {i : Nat} {o : Oper} {w' : World} (ho : ops[i]? = some o) (hw : Region.wanted o (yielded ops a.tmps) = true) (hnd : ∀ c, o.op ≠ .defer c) (he : (execOp a.eval o).run P w = .ok .skip w') (hK : K (a.put o.dst undef) w') : wpOpIn (fw ro) 0 P ops Q i K a w := by
  unfold wpOpIn
  simp only [ho, hw, if_true]
  refine ⟨fun _ _ => trivial, ?_⟩
  rw [Oper.semAt_eq _ _ _ hnd, he]
  exact hK

/-- The literal is made. -/
theorem Lit.made (hm : Mid P n m ops L pre D ids r0 h0 w0 r t h a w) (hp : Pre ops n all pre c) (ha : AllOk ops L all) (hx : Lit q its h0 w0 id D pre ids r t h w) {z : PS} (hz : z ∈ pre) (hz0 : z.i = 0) (hop : ops[0]? = some z.o) (hq : litOf P z.o = some q) (hD : D 0 = false)
    (hnl : ∀ p ∈ its, isLate q p.o = true → Nat.testBit p.m 0 = true) (hcl : ∀ p ∈ its, withI D 0 p.i = true → ∀ j, Nat.testBit p.m j = true → withI D 0 j = true) (hnz : ∀ p ∈ its, p.i ≠ 0)
    (hK : ∀ r' a' w', Mid P n m ops L pre (withI D 0) ids r0 h0 w0 r' t h a' w' → Lit q its h0 w0 id (withI D 0) pre ids r' t h w' → K a' w') : wpOpIn (fw ro) 0 P ops Q 0 K a w := by
  obtain ⟨g1, g2, g3, -⟩ := litOf_ok hq
  have hrn := hx.before hD
  have hl := map_late (P := P) hm.post.rel hrn hx.lt (fun o' ho => by rw [hx.dead] at ho; cases ho)
  have hv : VR (r.set id ⟨w.heap.size, 0, 0, 0⟩) (.map id) (.map (some w.heap.size)) := .map (p := ⟨w.heap.size, 0, 0, 0⟩) (Ren.set_same _ _ _)
  have hDz : D z.i = false := by rw [hz0]; exact hD
  refine wp_value (v' := .map (some w.heap.size)) (w' := w.alloc (.map #[] 0)) hop (wanted_none g3 _) (fun c e => by rw [g1] at e; cases e) (by simp [execOp, g1, Instr.makeMap]) (hK (r.set id ⟨w.heap.size, 0, 0, 0⟩) _ _ ⟨put_size.trans hm.sz, hm.le, by rw [put_defers]; exact hm.marks.far hl.frame, fun p hp hc => withI_old (hm.hard p hp hc), fun i hi => ?_, fun i hi hno => ?_, fun p hpp hDp => ?_, fun p hpp q' hq' hDp hDq' => hm.inj p hpp q' hq' (withI_false hDp).1 (withI_false hDq').1, fun p hpp hDp => hm.low p hpp (withI_false hDp).1, hl.after hm.post hx.lo hx.lt⟩ ⟨hx.tmp, hx.dead, hx.lt, hx.lo, hx.idz, hx.zin, hcl, (fun e => by rw [withI_self] at e; cases e), fun _ => ?_⟩)
  · rcases withI_true hi with e | e
    · exact hm.sub i e
    · exact ⟨z, hz, hz0.trans e.symm⟩
  · by_cases e : z.o.dst = some i
    · have hit : i = q.tm := Option.some.inj (e.symm.trans g2)
      rw [e, put_eq (by rw [hm.sz]; exact hp.dst z hz i e), hit, hx.tmp]
      exact hv
    · rw [put_ne e]
      refine (hm.fr i hi fun p hpp hDp e2 => ?_).mono hl.ext
      by_cases e3 : p.i = 0
      · rw [ha.uniq p (hp.mem p hpp) z (hp.mem z hz) (e3.trans hz0.symm)] at e2
        exact e e2
      · refine hno p hpp ?_ e2
        simp only [withI, hDp, Bool.false_or]
        cases hb : Nat.beq p.i 0 with
        | false => rfl
        | true => exact absurd (beq_of hb) e3
  · obtain ⟨hDp, hne⟩ := withI_false hDp
    rcases hm.lag p hpp hDp with hLq | ⟨ts', v2, k1, k2, k3⟩
    · exact .inl hLq
    refine .inr ⟨ts', v2, k1, k2, ?_⟩
    rcases k3 with k3 | k3 | ⟨j', ob', k3, k4, k5, k6, k7, k8, k9⟩
    · exact .inl k3
    · exact .inr (.inl k3)
    · refine .inr (.inr ⟨j', ob', k3, k4, k5, ?_, k7, k8, k9⟩)
      show (if j' = id then some _ else r j') = none
      rw [if_neg, k6]
      intro e
      rw [e] at k4
      exact hne ((hm.inj p hpp z hz hDp hDz id k4 (by rw [hz0]; exact hx.idz)).trans hz0)
  · refine ⟨⟨w.heap.size, 0, 0, 0⟩, #[], 0, Ren.set_same _ _ _, heap_push_new w _, hm.post.size, fun i o p hi hr e => ?_, (fun E hE => by simp at hE), fun p hpp hDp k v hk => ?_⟩
    · have hne : i ≠ id := fun e2 => by rw [e2, hx.dead] at hi; cases hi
      have hr' : r i = some p := by
        have : (if i = id then some _ else r i) = some p := hr
        rwa [if_neg hne] at this
      have := (hm.post.rel.dom i p hr').2
      rw [e] at this
      exact Nat.lt_irrefl _ this
    · rcases withI_true hDp with e | e
      · rw [hx.cl p hpp e 0 (hnl p hpp (isLate_iff.2 ⟨k, v, hk⟩))] at hD; cases hD
      · exact absurd e (hnz p hpp)

/-- An entry is laid. -/
theorem Lit.laid (ok : OkL q ops its its2) (htm : q.tm < n) (hm : Mid P n m ops L pre D ids r0 h0 w0 r t h a w) (hp : Pre ops n all pre c) (ha : AllOk ops L all) (hall : ∀ p ∈ all, p.i = 0 ∨ p ∈ its2) (hx : Lit q its h0 w0 id D pre ids r t h w)
    {kt e : TypeId} {kd : TypeDesc} (hty : P.underlying q.ty = some (.map kt e)) (hkt : P.underlying kt = some kd) (hT : keyTag (some kd) = some q.kt)
    (hkeys : ∀ p ∈ its, ∀ p' ∈ its, p.i ≠ p'.i → ∀ k v k' v', lateOf q p.o = some (k, v) → lateOf q p'.o = some (k', v') → Instr.sameNow kd k k' = some false)
    {p d : PS} (hpi : p ∈ its) (hdp : d ∈ pre) (hdi : d.i = p.i) (hdn : d.o.dst = none) (hop : ops[p.i]? = some p.o) {kv : Value} {v : Operand} (hl : lateOf q p.o = some (kv, v)) (hD : D p.i = false) (hah : ∀ j, Nat.testBit p.m j = true → D j = true)
    (hcl : ∀ p' ∈ its, withI D p.i p'.i = true → ∀ j, Nat.testBit p'.m j = true → withI D p.i j = true) (huniq : ∀ p' ∈ its, p'.i = p.i → p' = p)
    (hK : ∀ a' w', Mid P n m ops L pre (withI D p.i) ids r0 h0 w0 r t h a' w' → Lit q its h0 w0 id (withI D p.i) pre ids r t h w' → K a' w') : wpOpIn (fw ro) 0 P ops Q p.i K a w := by
  obtain ⟨g1, g2, g3⟩ := lateOf_ok hl
  have hlate := isLate_iff.2 ⟨kv, v, hl⟩
  have hD0 : D 0 = true := hah 0 (ok.z p hpi hlate)
  obtain ⟨pl, cur, c, k1, k2, k3, k4, k5, k6⟩ := hx.after hD0
  have hseen : SeenOk r t a (seenBy ops p.o) := fun d' hd' => by
    by_cases hd5 : d' < 512
    · rw [ev_get _ hd5, eval_tmp]
      refine hm.fr d' hd5 fun p' hp' hDp' e => ?_
      rcases hall p' (hp.mem p' hp') with e1 | e1
      · rw [e1, hD0] at hDp'; cases hDp'
      · rw [hah _ (ok.sees p hpi hlate p' e1 d' e hd')] at hDp'; cases hDp'
    · rw [ev_big _ hd5]
      exact .junk _
  have hev := seen_ev hseen
  have htv : a.eval (.tmp q.tm) = .map (some pl.blk) := by
    have h1 := hseen q.tm (late_tm hl)
    rw [ev_get _ (Nat.lt_of_lt_of_le htm hm.le), hx.tmp] at h1
    obtain ⟨pl', h2, h3⟩ := h1.inv5 rfl rfl
    have h2' : r id = some pl' := h2
    rw [k1] at h2'
    cases h2'
    exact h3
  have hvv : VR r ((evB v).f t) (a.eval v) := hev v (by rw [g1]; simp [Op.operands])
  have hkk : VR r (ofV kv) kv := VR_ofV r kv
  have hnew : Instr.findNow kd kv cur.toList 0 = some none := by
    have hno : ∀ E ∈ cur.toList, Instr.sameNow kd kv E.key = some false := fun E hE => by
      obtain ⟨l, q1, q2, k', v', q3, q4, -⟩ := k5 E hE
      rw [q4]
      exact hkeys p hpi l q1 (fun e => by rw [e, q2] at hD; cases hD) _ _ _ _ hl q3
    rcases findNow_all (kd := kd) (kv := kv) cur.toList 0 (fun E hE => ⟨_, hno E hE⟩) with ⟨e, -⟩ | ⟨j, E, -, e2, e3⟩
    · exact e
    · rw [hno E e2] at e3; cases e3
  have hlt : pl.blk < w.heap.size := (Array.getElem?_eq_some_iff.1 k2).1
  have hck := run_checkKey (P := P) (w := w) (b := true) (kt := kt) (v := kv) hkt hT
  refine wp_nothing (w' := wobj w pl.blk (.map (cur.push { key := kv, val := a.eval v, born := c }) (c + 1))) hop (wanted_none g3 _) (fun c e => by rw [g1] at e; cases e) ?_ ?_
  · simp only [execOp, g1]
    rw [htv]
    simp [Act.eval, Instr.mapUpdate, run_underlying hty, run_getMap k2, run_checkKey hkt hT, run_findKey hkt hnew, run_setMap k2]
  rw [g2]
  have hfar : ∀ b, b ≠ pl.blk → (wobj w pl.blk (.map (cur.push { key := kv, val := a.eval v, born := c }) (c + 1))).heap[b]? = w.heap[b]? := fun b hb => by simp [wobj, Array.getElem?_setIfInBounds_ne (Ne.symm hb)]
  have hsz : (wobj w pl.blk (.map (cur.push { key := kv, val := a.eval v, born := c }) (c + 1))).heap.size = w.heap.size := by simp [wobj]
  have hgot := wobj_get (w := w) (b := pl.blk) (O := .map (cur.push { key := kv, val := a.eval v, born := c }) (c + 1)) hlt
  have hos : (wobj w pl.blk (.map (cur.push { key := kv, val := a.eval v, born := c }) (c + 1))).os = w.os ∧ (wobj w pl.blk (.map (cur.push { key := kv, val := a.eval v, born := c }) (c + 1))).tape = w.tape ∧ (wobj w pl.blk (.map (cur.push { key := kv, val := a.eval v, born := c }) (c + 1))).output = w.output := ⟨rfl, rfl, rfl⟩
  generalize wobj w pl.blk (.map (cur.push { key := kv, val := a.eval v, born := c }) (c + 1)) = w' at hfar hsz hgot hos ⊢
  have h0' : withI D p.i 0 = true := withI_old hD0
  refine hK _ _ ⟨hm.sz, hm.le, hm.marks.keep (fun b d' hb => hfar b fun e2 => by rw [e2, k2] at hb; cases hb), fun p' hp' hc => withI_old (hm.hard p' hp' hc), fun i hi => ?_, fun i hi hno => hm.fr i hi fun p' hp' hDp' e2 => ?_, fun p' hp' hDp' => hm.lag p' hp' (withI_false hDp').1, fun p' hp' q' hq' hDp hDq' => hm.inj p' hp' q' hq' (withI_false hDp).1 (withI_false hDq').1, fun p' hp' hDp' => hm.low p' hp' (withI_false hDp').1, ?_⟩ ⟨hx.tmp, hx.dead, hx.lt, hx.lo, hx.idz, hx.zin, hcl, (fun e => by rw [h0'] at e; cases e), fun _ => ⟨pl, _, _, k1, hgot, k3, k4, fun E hE => ?_, fun l hl' hDl k v' hk => ?_⟩⟩
  · rcases withI_true hi with e | e
    · exact hm.sub i e
    · exact ⟨d, hdp, hdi.trans e.symm⟩
  · by_cases e3 : p'.i = p.i
    · rw [ha.uniq p' (hp.mem p' hp') d (hp.mem d hdp) (e3.trans hdi.symm), hdn] at e2
      cases e2
    · refine hno p' hp' ?_ e2
      simp only [withI, hDp', Bool.false_or]
      cases hb : Nat.beq p'.i p.i with
      | false => rfl
      | true => exact absurd (beq_of hb) e3
  · have hpo := hm.post
    exact ⟨hpo.rel.off k4 hfar hsz, hpo.ext, hpo.new, hpo.nxt, by rw [hsz]; exact hpo.size, fun b hb hno => by rw [hfar b (by omega)]; exact hpo.frame b hb hno, hpo.own, hpo.keep, hos.1.trans hpo.os, hos.2.1.trans hpo.tape, hos.2.2.trans hpo.output⟩
  · rw [Array.toList_push] at hE
    rcases List.mem_append.1 hE with hE | hE
    · obtain ⟨l, q1, q2, q3⟩ := k5 E hE
      exact ⟨l, q1, withI_old q2, q3⟩
    · have hE := List.mem_singleton.1 hE
      subst hE
      exact ⟨p, hpi, withI_self _ _, kv, v, hl, rfl, hvv⟩
  · rw [Array.toList_push]
    rcases withI_true hDl with e | e
    · obtain ⟨E, q1, q2⟩ := k6 l hl' e k v' hk
      exact ⟨E, List.mem_append_left _ q1, q2⟩
    · rw [huniq l hl' e, hl] at hk
      cases hk
      exact ⟨_, List.mem_append_right _ (List.mem_singleton.2 rfl), rfl, hvv⟩
end
end Go.Proofs.YtlclpcobblojnaaGreatDoor
/- The machine for closed runs: a region with a map literal, whatever order is drawn. -/
namespace Go.Proofs.YtlclpcobblojnaaGreatDoor

/-- The entries of a literal, among the items. -/
def lateI (q : LitP) (its : List PS) (i : Nat) : Bool := its.any fun p => Nat.beq p.i i && isLate q p.o
theorem lateI_iff {q : LitP} {its : List PS} {i : Nat} : lateI q its i = true ↔ ∃ p ∈ its, p.i = i ∧ isLate q p.o = true := by
  unfold lateI
  simp only [List.any_eq_true, Bool.and_eq_true]
  constructor
  · rintro ⟨p, h1, h2, h3⟩; exact ⟨p, h1, beq_of h2, h3⟩
  · rintro ⟨p, h1, h2, h3⟩; exact ⟨p, h1, by rw [h2]; exact Nat.beq_refl i, h3⟩
theorem litItem_i (q : LitP) (p : PS) : (litItem q p).i = p.i := by unfold litItem; split <;> rfl
theorem litItem_m (q : LitP) (p : PS) : (litItem q p).m = p.m := by unfold litItem; split <;> rfl
theorem litItem_after (q : LitP) (p : PS) : (litItem q p).o.after = p.o.after := by unfold litItem; split <;> rfl
theorem litItem_no {q : LitP} {p : PS} (h : isLate q p.o = false) : litItem q p = p := by unfold litItem; rw [h]
theorem litItem_yes {q : LitP} {p : PS} (h : isLate q p.o = true) : litItem q p = ⟨p.i, dummyO p.o, p.m⟩ := by unfold litItem; rw [h]

theorem litAll {P : Program} {ops : Array Oper} {z : PS} {its : List PS} {q : LitP} (hz : itemsGo 0 [] ops.toList = z :: its) (hq : litOf P z.o = some q) : AllOk ops (lateI q its) (z :: its.map (litItem q)) ∧ z.i = 0 ∧ (∀ p ∈ its, p.i ≠ 0) ∧ ∀ p ∈ its, ∀ p' ∈ its, p.i = p'.i → p = p' := by
  have hA := allOk ops
  rw [hz] at hA
  have hz0 : z.i = 0 := by
    cases hl : ops.toList with
    | nil => rw [hl] at hz; cases hz
    | cons o l =>
      rw [hl, itemsGo] at hz
      have := (List.cons.inj hz).1
      rw [← this]
  have hzl : isLate q z.o = false := by
    obtain ⟨g1, -⟩ := litOf_ok hq
    cases hb : isLate q z.o with
    | false => rfl
    | true =>
      obtain ⟨k, v, h⟩ := isLate_iff.1 hb
      rw [(lateOf_ok h).1] at g1
      cases g1
  have huniq : ∀ p ∈ its, ∀ p' ∈ its, p.i = p'.i → p = p' := fun p hp p' hp' e => hA.uniq p (List.mem_cons_of_mem _ hp) p' (List.mem_cons_of_mem _ hp') e
  have hnz : ∀ p ∈ its, p.i ≠ 0 := by
    cases hl : ops.toList with
    | nil => rw [hl] at hz; cases hz
    | cons o l =>
      rw [hl, itemsGo] at hz
      have e := (List.cons.inj hz).2
      intro p hp
      rw [← e] at hp
      have := items_le l _ _ p hp
      omega
  have hlate : ∀ p ∈ its, lateI q its p.i = isLate q p.o := fun p hp => by
    rw [Bool.eq_iff_iff, lateI_iff]
    constructor
    · rintro ⟨p', h1, h2, h3⟩
      rw [huniq p' h1 p hp h2] at h3
      exact h3
    · intro h; exact ⟨p, hp, rfl, h⟩
  have hz1 : lateI q its z.i = false := by
    cases hb : lateI q its z.i with
    | false => rfl
    | true =>
      obtain ⟨p, h1, h2, -⟩ := lateI_iff.1 hb
      exact absurd (h2.trans hz0) (hnz p h1)
  refine ⟨⟨fun p hp hL => ?_, fun p hp hL => ?_, fun p hp p' hp' e => ?_, fun D hD p hp hah j hj => ?_, fun i o ho => ?_⟩, hz0, hnz, huniq⟩
  · rcases List.mem_cons.1 hp with rfl | hp
    · exact hA.op p List.mem_cons_self rfl
    · obtain ⟨p', h1, rfl⟩ := List.mem_map.1 hp
      rw [litItem_i, hlate p' h1] at hL
      rw [litItem_no hL]
      exact hA.op p' (List.mem_cons_of_mem _ h1) rfl
  · rcases List.mem_cons.1 hp with rfl | hp
    · rw [hz1] at hL; cases hL
    · obtain ⟨p', h1, rfl⟩ := List.mem_map.1 hp
      rw [litItem_i, hlate p' h1] at hL
      rw [litItem_yes hL]
      rfl
  · rcases List.mem_cons.1 hp with e1 | m1 <;> rcases List.mem_cons.1 hp' with e2 | m2
    · rw [e1, e2]
    · obtain ⟨p2, h1, rfl⟩ := List.mem_map.1 m2
      rw [litItem_i, e1, hz0] at e
      exact absurd e.symm (hnz p2 h1)
    · obtain ⟨p2, h1, rfl⟩ := List.mem_map.1 m1
      rw [litItem_i, e2, hz0] at e
      exact absurd e (hnz p2 h1)
    · obtain ⟨p1, h1, rfl⟩ := List.mem_map.1 m1
      obtain ⟨p2, h2, rfl⟩ := List.mem_map.1 m2
      rw [litItem_i, litItem_i] at e
      rw [huniq p1 h1 p2 h2 e]
  · rcases List.mem_cons.1 hp with rfl | hp
    · exact hA.ahead D hD p List.mem_cons_self hah j hj
    · obtain ⟨p', h1, rfl⟩ := List.mem_map.1 hp
      rw [litItem_m] at hj
      exact hA.ahead D hD p' (List.mem_cons_of_mem _ h1) (fun e he hb => hah e (by rw [litItem_after]; exact he) hb) j hj
  · obtain ⟨p, h1, h2⟩ := hA.full i o ho
    rcases List.mem_cons.1 h1 with rfl | h1
    · exact ⟨p, List.mem_cons_self, h2⟩
    · exact ⟨litItem q p, List.mem_cons_of_mem _ (List.mem_map.2 ⟨p, h1, rfl⟩), by rw [litItem_i]; exact h2⟩

theorem items_ne : ∀ (l : List Oper) (i : Nat) (acc : List Nat), (itemsGo i acc l).Pairwise fun p p' => p.i ≠ p'.i
  | [], _, _ => .nil
  | o :: l, i, acc => .cons (fun p hp => by
      have h1 := items_le l _ _ p hp
      show i ≠ p.i
      omega) (items_ne l _ _)
theorem litEs_mem : ∀ {l : List (Value × Operand)} {t : Fr} {e : ME}, e ∈ (litEs l).f t ↔ ∃ k v, (k, v) ∈ l ∧ e = ⟨ofV k, (evB v).f t, 0⟩
  | [], t, e => ⟨fun h => (by cases h), fun ⟨_, _, h, _⟩ => (by cases h)⟩
  | (k, v) :: l, t, e => by
    show e ∈ _ :: (litEs l).f t ↔ _
    rw [List.mem_cons, litEs_mem (l := l)]
    constructor
    · rintro (rfl | ⟨k', v', h1, h2⟩)
      · exact ⟨k, v, List.mem_cons_self, rfl⟩
      · exact ⟨k', v', List.mem_cons_of_mem _ h1, h2⟩
    · rintro ⟨k', v', h1, rfl⟩
      rcases List.mem_cons.1 h1 with h1 | h1
      · cases h1; exact .inl rfl
      · exact .inr ⟨k', v', h1, rfl⟩
theorem litEs_keys : ∀ {l : List (Value × Operand)} {t : Fr}, ((litEs l).f t).map ME.key = l.map fun p => ofV p.1
  | [], _ => rfl
  | (k, v) :: l, t => by
    show ofV k :: ((litEs l).f t).map ME.key = _
    rw [litEs_keys (l := l)]
    rfl

section
variable {P : Program} {n m : Nat} {call : CallT} {ops : Array Oper}
theorem lit_ok {rd : Bool} (hm : P.follows .mixedOrders = true) (hc : CallOk P call) (rid : Nat) (ops : Array Oper) (hE : okE 0 ops.toList = true) : CodeOk P n call (.region rid ops true) (litB P n ops).f rd := by
  intro ro m t h k x r a w _ hf hs
  unfold litB at hf
  split at hf
  · cases hf
  rename_i z its hz
  split at hf
  · cases hf
  rename_i q hq
  simp only at hf
  split at hf
  case h_2 => cases hf
  rename_i hcond
  rw [Bool.and_eq_true, Bool.and_eq_true] at hcond
  obtain ⟨⟨hP, hokl⟩, hkeys⟩ := hcond
  have ok := okL_ok hokl
  obtain ⟨hkt, hkp⟩ := keysOk_ok hkeys
  obtain ⟨ha, hz0, hnz, huniq⟩ := litAll hz hq
  have hA := allOk ops
  rw [hz] at hA
  obtain ⟨g1, g2, g3, kt, e, kd, hty, hktd, hT⟩ := litOf_ok hq
  generalize hL : lateI q its = L at ha
  generalize hits2 : its.map (litItem q) = its2 at hf hP hokl ok ha
  generalize hall : z :: its2 = all at ha hP
  have hpl : ∀ p ∈ planGo ops.size 1 its2, p ∈ its2 := fun p hp => plan_mem _ _ _ _ hp
  generalize planGo ops.size 1 its2 = pl at hf hP hpl
  have hz0op : ops[0]? = some z.o := by have := hA.op z List.mem_cons_self rfl; rwa [hz0] at this
  have hLi : ∀ p ∈ its, L p.i = isLate q p.o := fun p hp => by
    rw [← hL, Bool.eq_iff_iff, lateI_iff]
    constructor
    · rintro ⟨p', h1, h2, h3⟩
      rw [huniq p' h1 p hp h2] at h3
      exact h3
    · intro h; exact ⟨p, hp, rfl, h⟩
  have hL0 : L 0 = false := by
    cases hb : L 0 with
    | false => rfl
    | true =>
      rw [← hL] at hb
      obtain ⟨p, h1, h2, -⟩ := lateI_iff.1 hb
      exact absurd h2 (hnz p h1)
  have hza : z ∈ all := by rw [← hall]; exact List.mem_cons_self
  have h2a : ∀ p ∈ its2, p ∈ all := fun p hp => by rw [← hall]; exact List.mem_cons_of_mem _ hp
  have ha2 : ∀ p ∈ all, p.i = 0 ∨ p ∈ its2 := fun p hp => by
    rw [← hall] at hp
    rcases List.mem_cons.1 hp with rfl | hp
    · exact .inl hz0
    · exact .inr hp
  have h2i : ∀ p ∈ its2, p.i ≠ 0 := fun p hp => by
    rw [← hits2] at hp
    obtain ⟨p', h1, rfl⟩ := List.mem_map.1 hp
    rw [litItem_i]
    exact hnz p' h1
  have hkl : ∀ p ∈ its, ∀ kv v, lateOf q p.o = some (kv, v) → kv ∈ (litKV q its).map (·.1) := fun p hp kv v hl => List.mem_map.2 ⟨(kv, v), List.mem_filterMap.2 ⟨p, hp, hl⟩, rfl⟩
  have hkpl : its.Pairwise fun p p' => ∀ kv v, lateOf q p.o = some (kv, v) → ∀ kv' v', lateOf q p'.o = some (kv', v') → (ofV kv').a = (ofV kv).a ∧ keysOk.keySame q.kt (ofV kv) (ofV kv') = false := by
    unfold litKV at hkp
    rw [List.pairwise_map, List.pairwise_filterMap] at hkp
    exact hkp.imp fun hh kv v h1 kv' v' h2 => hh (kv, v) h1 (kv', v') h2
  have happ : ∀ p ∈ its, ∀ p' ∈ its, p ≠ p' → ∀ kv v kv' v', lateOf q p.o = some (kv, v) → lateOf q p'.o = some (kv', v') → Instr.sameNow kd kv kv' = some false ∧ ofV kv ≠ ofV kv' ∧ (ofV kv').a = (ofV kv).a := by
    have hpp : its.Pairwise fun p p' => ∀ kv v kv' v', lateOf q p.o = some (kv, v) → lateOf q p'.o = some (kv', v') → (Instr.sameNow kd kv kv' = some false ∧ ofV kv ≠ ofV kv' ∧ (ofV kv').a = (ofV kv).a) ∧ (Instr.sameNow kd kv' kv = some false) := by
      refine hkpl.imp_of_mem fun {p p'} hp hp' hh kv v kv' v' h1 h2 => ?_
      obtain ⟨e1, e2⟩ := hh kv v h1 kv' v' h2
      obtain ⟨e3, e4, e5⟩ := keys_apart hT (hkt _ (hkl p hp _ _ h1)) (hkt _ (hkl p' hp' _ _ h2)) e1 e2
      exact ⟨⟨e3, e5, e1⟩, e4⟩
    have hsym : ∀ {l : List PS}, l.Pairwise (fun p p' => ∀ kv v kv' v', lateOf q p.o = some (kv, v) → lateOf q p'.o = some (kv', v') → (Instr.sameNow kd kv kv' = some false ∧ ofV kv ≠ ofV kv' ∧ (ofV kv').a = (ofV kv).a) ∧ (Instr.sameNow kd kv' kv = some false)) →
        ∀ p ∈ l, ∀ p' ∈ l, p ≠ p' → ∀ kv v kv' v', lateOf q p.o = some (kv, v) → lateOf q p'.o = some (kv', v') → Instr.sameNow kd kv kv' = some false ∧ ofV kv ≠ ofV kv' ∧ (ofV kv').a = (ofV kv).a := by
      intro l
      induction l with
      | nil => intro _ p hp; cases hp
      | cons y l ih =>
        intro hpw p hp p' hp' hne kv v kv' v' h1 h2
        obtain ⟨w1, w2⟩ := List.pairwise_cons.1 hpw
        rcases List.mem_cons.1 hp with e1 | hp <;> rcases List.mem_cons.1 hp' with e2 | hp'
        · exact absurd (e1.trans e2.symm) hne
        · exact (w1 p' hp' kv v kv' v' (e1 ▸ h1) h2).1
        · have := w1 p hp kv' v' kv v (e2 ▸ h2) h1
          exact ⟨this.2, fun e => this.1.2.1 e.symm, this.1.2.2.symm⟩
        · exact ih w2 p hp p' hp' hne kv v kv' v' h1 h2
    exact hsym hpp
  have hacyc : ∀ (i : Nat) (o : Oper), ops[i]? = some o → ∀ e ∈ o.after, Region.binds .any e = true → e.on < i := fun i o ho e he hb => by
    have := okE_ok 0 ops.toList hE i o (by simpa using ho) e he hb
    omega
  -- the beginning
  have hzc : clsO z.o.op < 2 := by rw [g1]; simp [clsO]
  have hpz := Pre.add (Pre.nil (ops := ops) (n := n) (all := all)) hza hP
  obtain ⟨z1, z2, z3, z4, -, hP2⟩ := okP_cons hP
  have htm : q.tm < n := z3 q.tm g2
  have hzs : seenBy ops z.o = [] := by unfold seenBy; rw [g1, g3]; rfl
  have hbit : (0 ||| 2 ^ z.i) = 1 := by rw [hz0]; rfl
  rw [hbit] at hP2 hpz
  let k' : KC := fun _ _ t h => k 0 0 t (h.put ((evB (.tmp q.tm)).f t).b (some (.lit ((litEs (litKV q its)).f t))))
  have hf : (planB P n ops [] pl).f call ((putF n (some q.tm)).f t (.map h.next)) ⟨h.t, h.next + 1⟩ k' = some x := hf
  have hrn := hs.rel.fresh
  have hdd : h.get h.next = none := by
    cases hg : h.get h.next with
    | none => rfl
    | some o => exact absurd (hs.rel.top _ _ hg) (Nat.lt_irrefl _)
  have hlag : Lag1 P ops z.i z.o t h.next (.map [] 0) (.map h.next) := fun ro Q K r a w g hr hn hi hob hs hK => by
    have hl := map_late (P := P) hr hn hi hob
    exact wp_value (v' := .map (some w.heap.size)) (w' := w.alloc (.map #[] 0)) (by rw [hz0]; exact hz0op) (wanted_none g3 _) (fun c e => by rw [g1] at e; cases e) (by simp [execOp, g1, Instr.makeMap]) (hK _ _ _ (.map (p := ⟨w.heap.size, 0, 0, 0⟩) (Ren.set_same _ _ _)) hl)
  have hmid0 : Mid P n m ops L [z] (fun _ => false) (fun i => if i = 0 then some h.next else none) r h w r ((putF n (some q.tm)).f t (.map h.next)) ⟨h.t, h.next + 1⟩ a w.drew := by
    refine ⟨hs.sz, hs.le, Marks.far (w := w) (w' := w.drew) (fun _ _ => rfl) hs.marks, fun p hp hh => ?_, fun _ e => (by cases e), fun i hi hno => ?_, fun p hp _ => ?_, fun p hp p' hp' _ _ j _ _ => ?_, fun p hp _ j hj => ?_, ?_⟩
    · rw [List.mem_singleton.1 hp] at hh; exact absurd hzc hh
    · have := hno z (List.mem_singleton.2 rfl) rfl
      rw [putF_ne hs.le hi (by rw [← g2]; exact this)]
      exact hs.fr i hi
    · rw [List.mem_singleton.1 hp]
      refine .inr ⟨t, .map h.next, fun d hd => (by rw [hzs] at hd; cases hd), fun d hd => ?_, .inr (.inr ⟨h.next, .map [] 0, by rw [g1]; rfl, by rw [hz0]; rfl, hlag, hrn, Nat.le_refl _, Nat.lt_succ_self _, fun o' ho => ?_⟩)⟩
      · rw [g2] at hd
        cases hd
        exact putF_eq hs.le htm
      · have ho' : h.get h.next = some o' := ho
        rw [hdd] at ho'; cases ho'
    · rw [List.mem_singleton.1 hp, List.mem_singleton.1 hp']
    · rw [List.mem_singleton.1 hp, hz0] at hj
      cases hj
      exact Nat.lt_succ_self _
    · have hd := Post.drew hs.rel
      exact ⟨hd.rel.sub (fun _ _ hi => hi) (Nat.le_succ _), r.le_refl, fun _ _ h => .inl h, Nat.le_succ _, Nat.le_refl _, fun _ _ _ => rfl, fun i o p h1 h2 => .inr ⟨i, o, p, h1, h2, rfl⟩, fun _ _ _ => rfl, rfl, rfl, rfl⟩
  have hlit0 : Lit q its h w h.next (fun _ => false) [z] (fun i => if i = 0 then some h.next else none) r ((putF n (some q.tm)).f t (.map h.next)) ⟨h.t, h.next + 1⟩ w.drew :=
    ⟨putF_eq hs.le htm, hdd, Nat.lt_succ_self _, Nat.le_refl _, rfl, ⟨z, List.mem_singleton.2 rfl, hz0⟩, fun _ _ e => (by cases e), fun _ => hrn, fun e => (by cases e)⟩
  let X : (Nat → Bool) → List PS → (Nat → Option Nat) → Ren → Fr → AH → World → Prop := fun D pre ids r t h' w' => Lit q its h w h.next D pre ids r t h' w'
  have hX : ∀ (D : Nat → Bool) (r' : Ren) (a' : Act) (w' : World), Keeps P n m ops L X all r h w D r' a' w' := fun D r' a' w' pre c ids t1 h1 p v h2 id' hm1 hp1 hpa hb _ hh _ hx => by
    have hpi : p ∈ its2 := by
      rcases ha2 p hpa with e | e
      · rw [e, (hp1.bits 0).2 hx.zin] at hb; cases hb
      · exact e
    exact Lit.soft ok hm1 hp1 hpi hb hh hx htm
  refine wpIn_region_any hm ?_
  let I : Array Bool → Act → World → Prop := fun listed a' w' => Still P n m call ops L X all k' x r h w (fun j => listed.getD j false) a' w' ∧ ∀ i o, ops[i]? = some o → listed.getD i false = true → Ahead (fun j => listed.getD j false) o
  have hD0 : (fun j => (Array.replicate ops.size false).getD j false) = fun _ => false := by
    funext j
    by_cases hj : j < ops.size <;> simp [hj]
  refine wpAny_inv (md := .any) I hacyc (fun listed a' w' i hsz hI hi => ?_) (fun listed a' w' hsz hdone hI => ?_) ops.size _ a _ (by simp) (by rw [Array.toList_replicate, cntF_rep]; exact Nat.le_refl _) ⟨?_, fun i o _ hl => ?_⟩
  · -- one is picked
    obtain ⟨⟨pre, l, done, c, ids, r', t', h', k1, kx, k2, k3, k4, k5, k6, k7⟩, hcl⟩ := hI
    obtain ⟨hl0, o, ho, hrd⟩ := mem_ready.1 hi
    have hlt : i < listed.size := by rw [hsz]; exact (Array.getElem?_eq_some_iff.1 ho).1
    have hDi : listed.getD i false = false := by simp [hlt] at hl0 ⊢; exact hl0
    have hah : Ahead (fun j => listed.getD j false) o := fun e he hb => hrd e he hb
    have hcl' : ∀ i' o', ops[i']? = some o' → (listed.setIfInBounds i true).getD i' false = true → Ahead (fun j => (listed.setIfInBounds i true).getD j false) o' := fun i' o' ho' hl' => by
      have e := withI_listed hlt
      have h1 : withI (fun j => listed.getD j false) i i' = true := by rw [← e]; exact hl'
      rw [e]
      rcases withI_true h1 with h1 | rfl
      · exact fun e he hb => withI_old (hcl i' o' ho' h1 e he hb)
      · rw [ho] at ho'
        cases ho'
        exact fun e he hb => withI_old (hah e he hb)
    have hclI : ∀ p ∈ its, withI (fun j => listed.getD j false) i p.i = true → ∀ j, Nat.testBit p.m j = true → withI (fun j => listed.getD j false) i j = true := fun p hp hw j hj => by
      rw [← withI_listed hlt] at hw ⊢
      exact hA.ahead (fun j => (listed.setIfInBounds i true).getD j false) hcl' p (List.mem_cons_of_mem _ hp) (hcl' p.i p.o (hA.op p (List.mem_cons_of_mem _ hp) rfl) hw) j hj
    have hmask : ∀ p ∈ all, p.i = i → ∀ j, Nat.testBit p.m j = true → listed.getD j false = true := fun p hp hpi => by
      refine ha.ahead (fun j => listed.getD j false) hcl p hp ?_
      rcases ha2 p hp with e | e
      · have : p = z := ha.uniq p hp z hza (e.trans hz0.symm)
        subst this
        have := hz0op
        rw [← e, hpi, ho] at this
        cases this
        exact hah
      · rw [← hits2] at e
        obtain ⟨p', h1, rfl⟩ := List.mem_map.1 e
        have := hA.op p' (List.mem_cons_of_mem _ h1) rfl
        rw [← litItem_i q p', hpi, ho] at this
        intro e he hb
        rw [litItem_after] at he
        cases this
        exact hah e he hb
    by_cases hin : ∃ p ∈ pre, p.i = i
    · obtain ⟨p, hpp, rfl⟩ := hin
      have hpa := k2.mem p hpp
      rcases ha2 p hpa with e | hp2
      · -- the literal itself
        have hpz : p = z := ha.uniq p hpa z hza (e.trans hz0.symm)
        subst hpz
        rw [hz0] at hDi hclI hlt hcl' ⊢
        refine Lit.made k1 k2 ha kx hpp hz0 hz0op hq hDi ok.z hclI hnz fun r2 a2 w2 hm2 hx2 => ⟨?_, hcl'⟩
        rw [withI_listed hlt]
        exact ⟨pre, l, done, c, ids, r2, t', h', hm2, hx2, k2, k3, k4, k5, k6, k7⟩
      · have hp2' := hp2
        rw [← hits2] at hp2'
        obtain ⟨p', hp', rfl⟩ := List.mem_map.1 hp2'
        have hop' := hA.op p' (List.mem_cons_of_mem _ hp') rfl
        cases hlate : isLate q p'.o with
        | true =>
          obtain ⟨kv, v, hkv⟩ := isLate_iff.1 hlate
          have hm' := hmask _ hpa rfl
          rw [litItem_m] at hm'
          have hdn : (litItem q p').o.dst = none := by rw [litItem_yes hlate]; rfl
          have hli := litItem_i q p'
          have hgo := Lit.laid (ro := ro) (Q := After P n m k x r h w) (K := I (listed.setIfInBounds (litItem q p').i true)) ok htm k1 k2 ha ha2 kx hty hktd hT (fun p hp p2 hp2 hne kv v kv' v' h1 h2 => (happ p hp p2 hp2 (fun e => hne (by rw [e])) kv v kv' v' h1 h2).1) hp' hpp hli hdn hop' hkv (by rw [← hli]; exact hDi) hm' (by rw [← hli]; exact hclI) (fun p2 hp2 e => huniq p2 hp2 p' hp' e) fun a2 w2 hm2 hx2 => ⟨by rw [withI_listed hlt, hli]; exact ⟨pre, l, done, c, ids, r', t', h', hm2, hx2, k2, k3, k4, k5, k6, k7⟩, hcl'⟩
          rw [hli] at hgo ⊢
          exact hgo
        | false =>
          have hLp : L (litItem q p').i = false := by rw [litItem_i, hLi p' hp']; exact hlate
          refine k1.pick k2 ha hpp hLp hDi (hmask _ hpa rfl) fun r2 a2 w2 hm2 hst => ⟨?_, hcl'⟩
          rw [withI_listed hlt]
          refine ⟨pre, l, done, c, ids, r2, t', h', hm2, Lit.stp kx (h2i _ hp2) (fun p2 hp2 e => ?_) hclI (fun hD0' e => ?_) hst, k2, k3, k4, k5, k6, k7⟩
          · rw [litItem_i] at e
            rw [huniq p2 hp2 p' hp' e]
            exact hlate
          · obtain ⟨z', hz1, hz2⟩ := kx.zin
            exact h2i _ hp2 ((k1.inj _ hpp z' hz1 hDi (by rw [hz2]; exact hD0') _ e (by rw [hz2]; exact kx.idz)).trans hz2)
    · have hbit : Nat.testBit c i = false := by
        cases hb : Nat.testBit c i with
        | false => rfl
        | true => exact absurd ((k2.bits i).1 hb) hin
      rcases okP_all k3 i (by omega) with e | ⟨p2, hq2, hqi⟩
      · rw [e] at hbit; cases hbit
      · cases l with
        | nil => cases hq2
        | cons p l =>
          have hh := k7 p l rfl
          have hpa := k4 p List.mem_cons_self
          have hpi : p.i = i := by
            rcases List.mem_cons.1 hq2 with rfl | hq2
            · exact hqi
            · have e1 := ((okP_cons k3).2.2.2.2.1 hh).1 p2 hq2
              have e2 := hmask p2 (k4 p2 (List.mem_cons_of_mem _ hq2)) hqi _ e1
              have e3 := (k2.bits p.i).2 (k1.sub _ e2)
              rw [(okP_cons k3).2.1] at e3
              cases e3
          subst hpi
          have hp2 : p ∈ its2 := by
            rcases ha2 p hpa with e | e
            · rw [e, (k2.bits 0).2 kx.zin] at hbit; cases hbit
            · exact e
          refine k1.hardStep hc k2 ha hpa k3 hh (hmask p hpa rfl) k5 k6 fun r2 t2 h2 a2 w2 hm2 hf2 hpost ⟨u, hu⟩ => ⟨?_, hcl'⟩
          rw [withI_listed hlt]
          have hx2 : X (withI (fun j => listed.getD j false) p.i) (p :: pre) ids r2 t2 h2 w2 := by
            rw [hu]
            refine Lit.hard ok hs.le htm kx hp2 hDi (h2i p hp2) (fun p' hp' e => ?_) hclI hpost
            cases hb : isLate q p'.o with
            | false => rfl
            | true =>
              have := hLi p' hp'
              rw [hb, e] at this
              exact absurd (ha.late p hpa this) (by omega)
          refine settle ha (hX _ _ _ _) l hm2 hx2 (k2.add hpa k3) (okP_cons k3).2.2.2.2.2 (fun q hq => k4 q (List.mem_cons_of_mem _ hq)) (fun q => ?_) hf2
          rw [k5 q]
          constructor
          · rintro ⟨h5, h6⟩
            exact ⟨List.mem_cons_of_mem _ h5, h6⟩
          · rintro ⟨h5, h6⟩
            rcases List.mem_cons.1 h5 with rfl | h5
            · exact absurd (by omega) hh
            · exact ⟨h5, h6⟩
  · -- all are done
    obtain ⟨⟨pre, l, done, c, ids, r', t', h', k1, kx, k2, k3, k4, k5, k6, k7⟩, hcl⟩ := hI
    have hDa : ∀ i, i < ops.size → listed.getD i false = true := fun i hi => by
      have := hdone i hi
      have h2 : i < listed.size := by omega
      simp [h2] at this ⊢
      exact this
    have hDits : ∀ p ∈ its, listed.getD p.i false = true := fun p hp => hDa _ (Array.getElem?_eq_some_iff.1 (hA.op p (List.mem_cons_of_mem _ hp) rfl)).1
    have hDz : listed.getD 0 false = true := hDa 0 (Array.getElem?_eq_some_iff.1 hz0op).1
    have hD : ∀ p ∈ all, listed.getD p.i false = true := fun p hp => by
      rcases ha2 p hp with e | e
      · rw [e]; exact hDz
      · rw [← hits2] at e
        obtain ⟨p', h1, rfl⟩ := List.mem_map.1 e
        rw [litItem_i]
        exact hDits p' h1
    cases l with
    | cons p l =>
      have e3 := (k2.bits p.i).2 (k1.sub _ (hD p (k4 p List.mem_cons_self)))
      rw [(okP_cons k3).2.1] at e3
      cases e3
    | nil =>
      obtain ⟨plc, cur, ck, c1, c2, c3, c4, c5, c6⟩ := kx.after hDz
      have hk6 : k 0 0 t' (h'.put ((evB (.tmp q.tm)).f t').b (some (.lit ((litEs (litKV q its)).f t')))) = some x := k6
      have hid : ((evB (.tmp q.tm)).f t').b = h.next := by
        rw [ev_get _ (Nat.lt_of_lt_of_le htm hs.le)]
        rw [show t'.get q.tm = .map h.next from kx.tmp]
        rfl
      rw [hid] at hk6
      have hlit : ObR P r' plc w' (.lit ((litEs (litKV q its)).f t')) := by
        refine .lit c2 (fun E hE => ?_) (fun e he => ?_) ?_ (fun e he f hf => ?_)
        · obtain ⟨p, q1, q2, kv, v, q3, q4, q5⟩ := c5 E hE
          exact ⟨_, litEs_mem.2 ⟨kv, v, List.mem_filterMap.2 ⟨p, q1, q3⟩, rfl⟩, by rw [q4]; exact VR_ofV r' kv, q5⟩
        · obtain ⟨kv, v, q1, rfl⟩ := litEs_mem.1 he
          obtain ⟨p, q2, q3⟩ := List.mem_filterMap.1 q1
          obtain ⟨E, q4, q5, q6⟩ := c6 p q2 (hDits p q2) kv v q3
          exact ⟨E, q4, by rw [q5]; exact VR_ofV r' kv, q6⟩
        · have h1 : (((litEs (litKV q its)).f t').map ME.key).Pairwise (· ≠ ·) := by
            rw [litEs_keys]
            have h2 : (litKV q its).Pairwise fun x y => ofV x.1 ≠ ofV y.1 := by
              unfold litKV
              rw [List.pairwise_filterMap]
              refine List.Pairwise.imp_of_mem (R := fun p p' => p ≠ p') (fun {p p'} hp hp' hne x hx y hy => ?_) ?_
              · exact (happ p hp p' hp' hne x.1 x.2 y.1 y.2 hx hy).2.1
              · have hnd : (z :: its).Pairwise fun p p' => p.i ≠ p'.i := by
                  rw [← hz]
                  exact items_ne _ _ _
                exact (List.pairwise_cons.1 hnd).2.imp fun h e => h (by rw [e])
            exact List.pairwise_map.2 h2
          exact List.pairwise_map.1 h1
        · obtain ⟨kv, v, q1, rfl⟩ := litEs_mem.1 he
          obtain ⟨kv', v', q1', rfl⟩ := litEs_mem.1 hf
          obtain ⟨p, q2, q3⟩ := List.mem_filterMap.1 q1
          obtain ⟨p', q2', q3'⟩ := List.mem_filterMap.1 q1'
          refine ⟨(hkt _ (hkl p q2 _ _ q3)).trans (hkt _ (hkl p' q2' _ _ q3')).symm, ?_⟩
          by_cases e : p = p'
          · subst e; rw [q3] at q3'; cases q3'; rfl
          · exact (happ p q2 p' q2' e kv v kv' v' q3 q3').2.2.symm
      have hg : ∀ i o, (h'.put h.next (some (.lit ((litEs (litKV q its)).f t')))).get i = some o → (i = h.next ∧ o = .lit ((litEs (litKV q its)).f t') ∧ h.next + 1 < 16777216) ∨ (i ≠ h.next ∧ h'.get i = some o) := fun i o hi => by
        rw [AH.get_put] at hi
        by_cases e : i = h.next
        · by_cases e2 : h.next + 1 < 16777216
          · rw [if_pos ⟨e, e2⟩] at hi; cases hi; exact .inl ⟨e, rfl, e2⟩
          · rw [if_neg (fun e3 => e2 e3.2), e, kx.dead] at hi; cases hi
        · rw [if_neg (fun e3 => e e3.1)] at hi; exact .inr ⟨e, hi⟩
      have hpo := k1.post
      have hpost : Post P r h w r' (h'.put h.next (some (.lit ((litEs (litKV q its)).f t')))) w' := by
        refine ⟨⟨fun i o hi => ?_, fun i o p hi hr => ?_, fun i j o1 o2 p1 p2 hi hj hr1 hr2 he => ?_, hpo.rel.dom, fun i o hi => ?_⟩, hpo.ext, hpo.new, hpo.nxt, hpo.size, hpo.frame, fun i o p hi hr => ?_, fun i hi hn => ?_, hpo.os, hpo.tape, hpo.output⟩
        · rcases hg i o hi with ⟨e, -, e2⟩ | ⟨-, e⟩
          · rw [e]; exact e2
          · exact hpo.rel.small i o e
        · rcases hg i o hi with ⟨e, e1, -⟩ | ⟨-, e⟩
          · rw [e, c1] at hr
            cases hr
            rw [e1]
            exact hlit
          · exact hpo.rel.live i o p e hr
        · rcases hg i o1 hi with ⟨e, -, -⟩ | ⟨e, e1⟩ <;> rcases hg j o2 hj with ⟨f, -, -⟩ | ⟨f, f1⟩
          · exact e.trans f.symm
          · rw [e, c1] at hr1
            cases hr1
            exact absurd he.symm (c4 j o2 p2 f1 hr2)
          · rw [f, c1] at hr2
            cases hr2
            exact absurd he (c4 i o1 p1 e1 hr1)
          · exact hpo.rel.inj i j o1 o2 p1 p2 e1 f1 hr1 hr2 he
        · rcases hg i o hi with ⟨e, -, -⟩ | ⟨-, e⟩
          · rw [e]; exact kx.lt
          · exact hpo.rel.top i o e
        · rcases hg i o hi with ⟨e, -, -⟩ | ⟨-, e⟩
          · rw [e, c1] at hr
            cases hr
            exact .inl c3
          · exact hpo.own i o p e hr
        · rw [AH.get_put, if_neg (fun e => by omega)]
          exact hpo.keep i hi hn
      exact ⟨0, 0, t', _, r', hk6, rfl, ⟨fun i hi => k1.fr i hi fun p hp hDp => (by rw [hD p (k2.mem p hp)] at hDp; cases hDp), k1.sz, k1.le, hpost.rel, k1.marks, Nat.le_trans hs.low hpost.size⟩, hpost⟩
  · -- the beginning
    rw [hD0]
    exact settle ha (hX _ _ _ _) pl hmid0 hlit0 hpz hP2 (fun p hp => h2a p (hpl p hp)) (fun p => ⟨fun e => (by cases e), fun e => (by rw [List.mem_singleton.1 e.1, g1] at e; cases e.2)⟩) hf
  · have : (fun j => (Array.replicate ops.size false).getD j false) i = true := hl
    rw [hD0] at this
    cases this

theorem draw_ok {rd : Bool} (hm : P.follows .mixedOrders = true) (hc : CallOk P call) (id : Nat) (ops : Array Oper) : CodeOk P n call (.region id ops true) (drawB P n ops).f rd := by
  unfold drawB
  split
  · rename_i hE
    exact draw1_ok hm hc id ops hE (lit_ok hm hc id ops hE)
  · exact fun ro m t h k x r a w _ hf => by cases hf
end
end Go.Proofs.YtlclpcobblojnaaGreatDoor
/- The machine for closed runs: ranges over functions; functions; calls. -/
namespace Go.Proofs.YtlclpcobblojnaaGreatDoor

theorem nthN_some {β : Type} {l : List Nat} {k : Nat → Option β} {x : β} (h : nthN l k = some x) : ∃ a l', l = a :: l' ∧ k a = some x := by
  cases l with
  | nil => cases h
  | cons a l' => exact ⟨a, l', rfl, h⟩

section
variable {P : Program} {n m : Nat} {call : CallT} {x : AV × AH}
theorem Post.garbage {r : Ren} {h : AH} {w : World} (hr : Rel P r h w) (O : Obj) : Post P r h w r h (w.alloc O) :=
  ⟨⟨hr.small, fun i o p h1 h2 => (hr.live i o p h1 h2).same (heap_push_old w O (hr.dom _ _ h2).2), hr.inj, fun i p hp => ⟨(hr.dom i p hp).1, by have := (hr.dom i p hp).2; simp; omega⟩, hr.top⟩,
    r.le_refl, fun _ _ h => .inl h, Nat.le_refl _, by simp, fun b hb _ => heap_push_old w O hb, fun i o p h1 h2 => .inr ⟨i, o, p, h1, h2, rfl⟩, fun _ _ _ => rfl, rfl, rfl, rfl⟩

/-- A loop's record. -/
theorem loop_live {r : Ren} {h : AH} {w : World} (hr : Rel P r h w) {i : Nat} {ob : OB} {p : Pl} (hg : h.get i = some ob) (hk : ob.kind = 4) (hp : r i = some p) :
    ∃ L x o t ps asg body n, w.heap[p.blk]? = some (.loop L) ∧ ob = .loop x o ob.m (n, t, ps, asg, body) ∧ FrR r t L.tmps ∧ L.params.toList = ps ∧ L.assign = asg ∧ L.body = body ∧ L.state = stateOf ob.m ∧ L.pending = jumpOf x o ∧ L.tmps.size = n ∧ n ≤ 512 := by
  have := hr.live _ _ _ hg hp
  cases this with
  | arr _ _ _ _ _ _ => cases hk
  | map _ _ _ => cases hk
  | lit _ _ _ _ _ => cases hk
  | iter _ _ _ => cases hk
  | loop h1 h2 h3 h4 h5 h6 h7 h8 => exact ⟨_, _, _, _, _, _, _, _, h1, rfl, h2, h3, h4, h5, h6, h7, h8.1, h8.2⟩

theorem run_getLoop {w : World} {l : Nat} {L : Loop} (h : w.heap[l]? = some (.loop L)) : (Instr.getLoop l).run P w = .ok L w := by
  simp [Instr.getLoop, getObj, Sem.run, h]
theorem run_setLoop {w : World} {l : Nat} {L L' : Loop} (h : w.heap[l]? = some (.loop L)) : (setObj l (.loop L')).run P w = .ok () (wobj w l (.loop L')) := by
  simp [setObj, Sem.run, h, wobj]

theorem run_endLoop {w : World} {l : Nat} {L : Loop} (h : w.heap[l]? = some (.loop L)) (hst : (L.state == LoopState.busy) = false) : (Instr.endLoop l).run P w = .ok L.pending (wobj w l (.loop { L with state := .exhausted })) := by
  have e1 := run_setLoop (P := P) (L' := { L with state := .exhausted }) h
  unfold Instr.endLoop
  rw [Sem.run_bind, run_getLoop h, Result.andThen_ok]
  simp only [hst, Bool.false_eq_true, if_false]
  simp [e1]
theorem not_busy {m : Nat} (h : m ≠ 1) : (stateOf m == LoopState.busy) = false := by
  match m, h with
  | 0, _ => rfl
  | 1, h => exact absurd rfl h
  | 2, _ => rfl
  | _ + 3, _ => rfl
theorem marks_lt {m : Nat} {w : World} : ∀ {ds : List Deferred}, Marks m w ds → ∀ d ∈ ds, ∀ b, d.target = .collected b → b < w.heap.size
  | _, .nil, d, hd, _, _ => by cases hd
  | _, .cons _ h1 _ t, d, hd, b, hb => by
    rcases List.mem_cons.1 hd with rfl | hd
    · cases hb
      exact (Array.getElem?_eq_some_iff.1 h1).1
    · exact marks_lt t d hd b hb
theorem jump_ok {ro : Option Nat} {Q : Exit → Act → World → Prop} {a : Act} {w : World} : ∀ {y e : Nat}, Q (exitOf y e) a w → (match jumpOf y e with | none => Q .normal a w | some c => c.wpIn (fw ro) 0 P Q a w)
  | 0, _, h => h
  | 1, _, h => wpIn_exit h
  | _ + 2, _, h => wpIn_ret h
theorem rangeF_ok (hc : CallOk P call) (g : Operand) (ps : Array Tmp) (asg body : Code) : CodeOk P n call (.rangeFunc g ps asg body) (rangeFC n (evB g).f ps.toList asg body) false := by
  intro ro m t h k x r a w hro hf hs
  have hro := hro rfl
  subst hro
  obtain ⟨hy, hf⟩ := ifB_some hf
  refine wpIn_rangeFunc fun fn _ => ?_
  -- the record
  have hr := hs.rel
  have hp1 := Post.garbage hr (.deferred (some []))
  let L : Loop := { state := .ready, pending := none, fn, tmps := a.tmps, params := ps, assign := asg, body, defers := w.heap.size }
  have hL0 : ((w.alloc (.deferred (some []))).alloc (.loop L)).heap[w.heap.size + 1]? = some (.loop L) := by
    have e : (w.alloc (.deferred (some []))).heap.size = w.heap.size + 1 := by simp
    rw [← e]
    exact heap_push_new _ _
  have hp2 : Post P r h (w.alloc (.deferred (some []))) (r.set h.next ⟨w.heap.size + 1, 0, 0, 0⟩) (h.new (.loop 0 0 0 (n, t, ps.toList, asg, body))) ((w.alloc (.deferred (some []))).alloc (.loop L)) :=
    Post.alloc hp1.rel (by simp) (.loop (L := L) hL0 (hs.fr.mono (r.le_set _ hr.fresh)) rfl rfl rfl rfl rfl ⟨hs.sz, hs.le⟩)
  have hp := hp1.trans hp2
  have hset : (r.set h.next ⟨w.heap.size + 1, 0, 0, 0⟩) h.next = some ⟨w.heap.size + 1, 0, 0, 0⟩ := Ren.set_same _ _ _
  have hmk : ((w.alloc (.deferred (some []))).alloc (.loop L)).heap[w.heap.size]? = some (.deferred (some [])) := by
    rw [heap_push_old _ _ (by simp)]
    exact heap_push_new _ _
  obtain ⟨d, nx, h1, h2, h3, hent⟩ := valK_ok hc hf hp.rel ((evB_ok hs.fr g).mono hp.ext) (.cons (.yield hset) .nil : VRs _ [AV.yield h.next] (#[Value.func (.yield (w.heap.size + 1)) #[] #[]] : Array Value).toList)
  obtain ⟨f, args, rfl⟩ := hent hy
  refine ⟨w.heap.size + 1, [{ target := .collected w.heap.size, args := #[] }], (w.alloc (.deferred (some []))).alloc (.loop L), d, (w.alloc (.deferred (some []))).alloc (.loop L), f, args, (w.alloc (.deferred (some []))).alloc (.loop L), ?_, ?_, fun _ _ => trivial, h2, (fun e => by cases e), ?_⟩
  · simp [Instr.enterLoop, fw, L]
  · simpa [resolve, Act.eval] using h1
  refine CallsIn.mono (F := fw none) (R := fun e w' => ∃ v v' h' s, e = .returned v' ∧ (fun (_ : AV) (h2 : AH) => optK none (h2.get h.next) fun o => ifB (Nat.beq o.kind 4) (ifB (Nat.beq o.m 1) none (optK none o.lp fun lp => nthN o.ns fun x => k o.n x t (h2.put h.next (some (.loop o.n x 3 lp))))) none) v h' = some x ∧ VR s v v' ∧ Post P _ _ _ s h' w') h3 fun e w' he => ?_
  obtain ⟨v, v', h', s, rfl, h4, -, h6⟩ := he
  obtain ⟨o, h7, h4⟩ := optK_some h4
  obtain ⟨h8, h4⟩ := ifB_some h4
  have hsp : s h.next = some ⟨w.heap.size + 1, 0, 0, 0⟩ := h6.ext _ _ hset
  obtain ⟨L', y, e, t', ps', asg', body', n', q1, q2, q3, q4, q5, q6, q7, q8, q9, q10⟩ := loop_live h6.rel h7 (beq_of h8) hsp
  have hm1 : o.m ≠ 1 := fun e => by rw [e] at h4; cases h4
  have h4 : (optK none o.lp fun lp => nthN o.ns fun x => k o.n x t (h'.put h.next (some (.loop o.n x 3 lp)))) = some x := by
    have hb : Nat.beq o.m 1 = false := by
      cases hb : Nat.beq o.m 1 with
      | false => rfl
      | true => exact absurd (beq_of hb) hm1
    rw [hb] at h4
    exact h4
  rw [q2] at h4
  have h4 : k y e t (h'.put h.next (some (.loop y e 3 (n', t', ps', asg', body')))) = some x := h4
  have hend : (Instr.endLoop (w.heap.size + 1)).run P w' = .ok (jumpOf y e) (wobj w' (w.heap.size + 1) (.loop { L' with state := .exhausted })) := by
    rw [← q8]
    exact run_endLoop q1 (by rw [q7]; exact not_busy hm1)
  have hp3 := post_wobj h6.rel (O := .loop { L' with state := .exhausted }) (ob' := .loop y e 3 (n', t', ps', asg', body')) h7 hsp (.loop (L := { L' with state := .exhausted }) (wobj_get (Array.getElem?_eq_some_iff.1 q1).1) q3 q4 q5 q6 rfl q8 ⟨q9, q10⟩)
  have hpa := (hp.trans h6).trans hp3
  have hmarks : Marks m (wobj w' (w.heap.size + 1) (.loop { L' with state := .exhausted })) ({ target := .collected w.heap.size, args := #[] } :: a.defers) := by
    refine .cons hs.low ((h6.trans hp3).marked hp.rel hmk) (fun d hd e => ?_) (hs.marks.step hpa hr)
    exact Nat.lt_irrefl _ (marks_lt hs.marks d hd _ e)
  have hst2 : St P n m s t (h'.put h.next (some (.loop y e 3 (n', t', ps', asg', body')))) { a with defers := { target := .collected w.heap.size, args := #[] } :: a.defers } (wobj w' (w.heap.size + 1) (.loop { L' with state := .exhausted })) :=
    ⟨hs.fr.mono (Ren.le_trans hp.ext h6.ext), hs.sz, hs.le, hp3.rel, hmarks, Nat.le_trans hs.low hpa.size⟩
  exact ⟨jumpOf y e, _, hend, jump_ok (ro := none) (P := P) ⟨y, e, t, _, s, h4, rfl, hst2, hpa⟩⟩
end
end Go.Proofs.YtlclpcobblojnaaGreatDoor
/- The machine for closed runs: rounds; functions; every call. -/
namespace Go.Proofs.YtlclpcobblojnaaGreatDoor

section
variable {P : Program} {n m : Nat} {call : CallT} {x : AV × AH}

theorem setTs_ok {r : Ren} {k : Fr → R} (hn : n ≤ 512) : ∀ (ps : List Tmp) (t : Fr) (xs : List AV) (as' : List Value) (tmps : Array Value), (setTs n ps).f t xs k = some x → VRs r xs as' → FrR r t tmps → tmps.size = n →
    ps.length = as'.length ∧ ∃ t', k t' = some x ∧ FrR r t' ((ps.zip as').foldl (fun tmps p => tmps.setIfInBounds p.1 p.2) tmps) ∧ ((ps.zip as').foldl (fun tmps p => tmps.setIfInBounds p.1 p.2) tmps).size = n
  | [], t, [], as', tmps, hf, hx, hfr, hs => by
    cases hx
    exact ⟨rfl, t, hf, hfr, hs⟩
  | [], t, _ :: _, as', tmps, hf, hx, hfr, hs => by cases hf
  | p :: ps, t, [], as', tmps, hf, hx, hfr, hs => by cases hf
  | p :: ps, t, y :: xs, as', tmps, hf, hx, hfr, hs => by
    cases hx with
    | @cons _ v _ vs hv hx =>
      have h1 := FrR.put (a := { tmps := tmps, defers := [] }) (n := n) hfr r.le_refl hn hs (some p) hv
      have h2 : FrR r ((putF n (some p)).f t y) (tmps.setIfInBounds p v) := h1
      obtain ⟨h3, t', h4, h5, h6⟩ := setTs_ok hn ps _ xs vs _ hf hx h2 (by simpa using hs)
      exact ⟨by simp [h3], t', h4, by simpa using h5, by simpa using h6⟩

theorem run_endRound {w : World} {l : Nat} {L : Loop} (h : w.heap[l]? = some (.loop L)) (j : Option Code) : (Instr.endRound l j).run P w = .ok (.bool j.isNone) (wobj w l (.loop { L with state := if j.isNone then .ready else .done, pending := j })) := by
  unfold Instr.endRound
  rw [Sem.run_bind, run_getLoop h, Result.andThen_ok, Sem.run_bind, run_setLoop h]
  rfl
theorem run_beginRound {w : World} {l : Nat} {L : Loop} (h : w.heap[l]? = some (.loop L)) (hs : L.state = .ready) : (Instr.beginRound l).run P w = .ok () (wobj w l (.loop { L with state := .busy })) := by
  unfold Instr.beginRound
  rw [Sem.run_bind, run_getLoop h, Result.andThen_ok, Sem.run_bind, run_setLoop h, Result.andThen_ok, hs]
  rfl
theorem run_yield {w : World} {l : Nat} {L : Loop} (h : w.heap[l]? = some (.loop L)) (args : Array Value) (hs : L.params.size = args.size) : (Instr.yield l args).run P w = .ok (.round l L.fn ((L.params.toList.zip args.toList).foldl (fun tmps p => tmps.setIfInBounds p.1 p.2) L.tmps) L.assign L.body) w := by
  unfold Instr.yield
  rw [Sem.run_bind, run_getLoop h, Result.andThen_ok]
  simp only [hs, ne_eq, not_true_eq_false, if_false]
  have : (L.params.zip args).foldl (fun tmps (x : Tmp × Value) => tmps.setIfInBounds x.1 x.2) L.tmps = (L.params.toList.zip args.toList).foldl (fun tmps p => tmps.setIfInBounds p.1 p.2) L.tmps := by
    rw [← Array.foldl_toList, Array.toList_zip]
  exact congrArg (fun z => Result.ok (Next.round l L.fn z L.assign L.body) w) this

theorem jump_none : ∀ {y e : Nat}, (jumpOf y e).isNone = Nat.beq y 0
  | 0, _ => rfl
  | 1, _ => rfl
  | _ + 2, _ => rfl
theorem round_post {l : Nat} {Rr : Ending → World → Prop} {a : Act} {w : World} {y e : Nat} (h : ∃ v w', (Instr.endRound l (jumpOf y e)).run P w = .ok v w' ∧ Rr (.returned v) w') : roundPost P l Rr (exitOf y e) a w := by
  match y, h with
  | 0, h => exact h
  | 1, h => exact h
  | _ + 2, h => exact h

/-- One round of a range over a function. -/
theorem round_ok (hcode : ∀ (n : Nat) (c : Code), CodeOk P n call c (codeB P n true c).f true) {l : Nat} {xs : List AV} {h : AH} {k : KV} {r : Ren} {p : Pl} {args : Array Value} {w : World} (hf : roundK P call l xs h k = some x) (hr : Rel P r h w) (hp : r l = some p) (hx : VRs r xs args.toList) :
    ∃ fn tmps asg body, (Instr.yield p.blk args).run P w = .ok (.round p.blk fn tmps asg body) w ∧ RoundIn Fence.wide 0 P p.blk fn tmps asg body w (fun e w' => ∃ v v' h' s, e = .returned v' ∧ k v h' = some x ∧ VR s v v' ∧ Post P r h w s h' w') := by
  obtain ⟨o, h1, hf⟩ := optK_some hf
  obtain ⟨h2, hf⟩ := ifB_some hf
  obtain ⟨L, xo, oo, t, ps, asg, body, n, q1, q2, q3, q4, q5, q6, q7, q8, q9, q10⟩ := loop_live hr h1 (beq_of h2) hp
  rw [q2] at hf
  obtain ⟨h3, t', h4, h5, h6⟩ := setTs_ok q10 ps t xs args.toList L.tmps hf hx q3 q9
  have hps : L.params.size = args.size := by
    have := congrArg List.length q4
    simp at this
    simp at h3
    omega
  rw [← q4] at h5 h6
  refine ⟨_, _, _, _, run_yield q1 args hps, roundIn_of_wpIn trivial ?_⟩
  rw [q5, q6]
  have hst : St P n 0 r t' h { tmps := (L.params.toList.zip args.toList).foldl (fun tmps p => tmps.setIfInBounds p.1 p.2) L.tmps, defers := [] } w := ⟨h5, h6, q10, hr, .nil, Nat.zero_le _⟩
  refine wpIn_mono (F := fw (some p.blk)) (hcode n asg (some p.blk) 0 t' h _ x r _ w (fun e => by cases e) h4 hst) fun e a1 w1 he => ?_
  obtain ⟨y, o1, t1, h1', s, g1, rfl, g2, g3⟩ := he
  obtain ⟨g4, g1⟩ := ifB_some g1
  have := beq_of g4
  subst this
  obtain ⟨o2, g5, g1⟩ := optK_some g1
  obtain ⟨g6, g1⟩ := ifB_some g1
  obtain ⟨g7, g1⟩ := ifB_some g1
  have hsp : s l = some p := g3.ext _ _ hp
  obtain ⟨L2, x2, e2, t2, ps2, asg2, body2, n2, r1, r2, r3, r4, r5, r6, r7, r8, r9, r10⟩ := loop_live g2.rel g5 (beq_of g6) hsp
  rw [r2] at g1
  rw [beq_of g7] at r7
  have hb := run_beginRound (P := P) r1 r7
  refine ⟨_, hb, ?_⟩
  have hp2 := post_wobj g2.rel (O := .loop { L2 with state := .busy }) (ob' := .loop x2 e2 1 (n2, t2, ps2, asg2, body2)) g5 hsp (.loop (L := { L2 with state := .busy }) (wobj_get (Array.getElem?_eq_some_iff.1 r1).1) r3 r4 r5 r6 rfl r8 ⟨r9, r10⟩)
  have g1 : (codeB P n true body).f call t1 (h1'.put l (some (.loop x2 e2 1 (n2, t2, ps2, asg2, body2)))) (fun y e _ h => optK none (h.get l) fun o => ifB (Nat.beq o.kind 4) (optK none o.lp fun lp3 =>
        k (.bool (Nat.beq y 0)) (h.put l (some (.loop y e (ifB (Nat.beq y 0) 0 2) lp3)))) none) = some x := g1
  have hst2 : St P n 0 s t1 (h1'.put l (some (.loop x2 e2 1 (n2, t2, ps2, asg2, body2)))) a1 (wobj w1 p.blk (.loop { L2 with state := .busy })) := ⟨g2.fr, g2.sz, g2.le, hp2.rel, g2.marks.step hp2 g2.rel, Nat.zero_le _⟩
  refine wpIn_mono (F := fw (some p.blk)) (hcode n body (some p.blk) 0 t1 _ _ x s a1 _ (fun e => by cases e) g1 hst2) fun e a2 w2 he => ?_
  obtain ⟨y, e3, t3, h3', s3, u1, rfl, u2, u3⟩ := he
  obtain ⟨o3, u4, u1⟩ := optK_some u1
  obtain ⟨u5, u1⟩ := ifB_some u1
  have hsp3 : s3 l = some p := u3.ext _ _ hsp
  obtain ⟨L3, x3, e4, t4, ps3, asg3, body3, n3, v1, v2, v3, v4, v5, v6, v7, v8, v9, v10⟩ := loop_live u2.rel u4 (beq_of u5) hsp3
  rw [v2] at u1
  have u1 : k (.bool (Nat.beq y 0)) (h3'.put l (some (.loop y e3 (ifB (Nat.beq y 0) 0 2) (n3, t4, ps3, asg3, body3)))) = some x := u1
  have hs3 : (if (jumpOf y e3).isNone then LoopState.ready else LoopState.done) = stateOf (ifB (Nat.beq y 0) 0 2) := by
    rw [jump_none]
    cases Nat.beq y 0 <;> rfl
  have hp3 := post_wobj u2.rel (O := .loop { L3 with state := if (jumpOf y e3).isNone then .ready else .done, pending := jumpOf y e3 }) (ob' := .loop y e3 (ifB (Nat.beq y 0) 0 2) (n3, t4, ps3, asg3, body3)) u4 hsp3
    (.loop (L := { L3 with state := if (jumpOf y e3).isNone then .ready else .done, pending := jumpOf y e3 }) (wobj_get (Array.getElem?_eq_some_iff.1 v1).1) v3 v4 v5 v6 hs3 rfl ⟨v9, v10⟩)
  refine round_post ⟨_, _, run_endRound v1 _, .bool (Nat.beq y 0), _, _, s3, rfl, u1, ?_, ((g3.trans hp2).trans u3).trans hp3⟩
  rw [jump_none]
  exact .bool _
end
end Go.Proofs.YtlclpcobblojnaaGreatDoor
/- The machine for closed runs: a range over a map in any order. -/
namespace Go.Proofs.YtlclpcobblojnaaGreatDoor

theorem meEq_ok {x y : ME} (h : meEq x y = true) : x = y := by
  have ib : ∀ {b c : Bool}, ifB b c false = true → b = true ∧ c = true := fun {b c} h => by cases b <;> cases c <;> first | exact ⟨rfl, rfl⟩ | cases h
  obtain ⟨h1, h⟩ := ib h
  obtain ⟨h2, h3⟩ := ib h
  cases x; cases y
  simp only at h1 h2 h3
  rw [avEq1_ok h1, avEq1_ok h2, beq_of h3]
theorem mesEq_ok : ∀ {l m : List ME}, mesEq l m = true → l = m
  | [], [], _ => rfl
  | [], _ :: _, h => by cases h
  | _ :: _, [], h => by cases h
  | a :: l, b :: m, h => by
    have h : ifB (meEq a b) (mesEq l m) false = true := h
    cases h1 : meEq a b with
    | true => rw [h1, ifB_t] at h; rw [meEq_ok h1, mesEq_ok h]
    | false => rw [h1] at h; cases h
theorem mapEq_ok {x y : Option OB} (h : mapEq x y = true) : ∃ a b, x = some a ∧ y = some b ∧ a.kind = 1 ∧ b.kind = 1 ∧ a.n = b.n ∧ a.es = b.es := by
  have ib : ∀ {b c : Bool}, ifB b c false = true → b = true ∧ c = true := fun {b c} h => by cases b <;> cases c <;> first | exact ⟨rfl, rfl⟩ | cases h
  cases x with
  | none => cases h
  | some a =>
    cases y with
    | none => cases h
    | some b =>
      obtain ⟨h1, h⟩ := ib h
      obtain ⟨h2, h⟩ := ib h
      obtain ⟨h3, h4⟩ := ib h
      exact ⟨a, b, rfl, rfl, beq_of h1, beq_of h2, beq_of h3, mesEq_ok h4⟩

section
variable {P : Program} {r s s2 : Ren} {h g g2 h2 : AH} {w w' : World}
theorem Rel.same_map (h1 : Rel P r h w) {w' : World} (h2 : Rel P s g w') {i : Nat} {a b : OB} {p q : Pl} (ha : h.get i = some a) (hb : g.get i = some b) (hp : r i = some p) (hq : s i = some q) (hk : a.kind = 1) (hk' : b.kind = 1) (hn : a.n = b.n) (he : a.es = b.es) : a = b := by
  have e1 := h1.live _ _ _ ha hp
  have e2 := h2.live _ _ _ hb hq
  cases e1 with
  | map _ _ _ =>
    cases e2 with
    | map _ _ _ => simp [OB.map] at hn he ⊢; exact ⟨hn, he⟩
    | arr _ _ _ _ _ _ => cases hk'
    | lit _ _ _ _ _ => cases hk'
    | iter _ _ _ => cases hk'
    | loop _ _ _ _ _ _ _ _ => cases hk'
  | arr _ _ _ _ _ _ => cases hk
  | lit _ _ _ _ _ => cases hk
  | iter _ _ _ => cases hk
  | loop _ _ _ _ _ _ _ _ => cases hk

/-- A walk in a part of memory is a walk in the whole. -/
theorem Post.union {h' : AH} {own : Nat} (hr : Rel P s h w) (hg : ∀ i o, g.get i = some o → h.get i = some o) (hn : g.next = h.next) (hp : Post P s g w s2 h2 w') (hn2 : h2.next = h.next) (hn' : h'.next = h.next)
    (ho : (h.get own).isSome = true) (hso : (s own).isSome = true) (h1 : h'.get own = h2.get own) (h3 : ∀ i, i ≠ own → h'.get i = h.get i) (hsame : ∀ i o p, i ≠ own → g.get i = some o → s i = some p → h2.get i = some o) : Post P s h w s2 h' w' := by
  have hs : ∀ i p, s2 i = some p → s i = some p := fun i p hi => by
    rcases hp.new i p hi with e | e
    · exact e
    · omega
  have hdom : ∀ i o, h'.get i = some o → ∃ o', h.get i = some o' := fun i o hi => by
    by_cases e : i = own
    · subst e
      exact Option.isSome_iff_exists.1 ho
    · rw [h3 i e] at hi
      exact ⟨o, hi⟩
  refine ⟨⟨fun i o hi => ?_, fun i o p hi hpi => ?_, fun i j o o' p q hi hj hpi hqj he => ?_, fun i p hi => ?_, fun i o hi => ?_⟩, hp.ext, fun i p hi => .inl (hs i p hi), by omega, hp.size, fun b hb hno => hp.frame b hb fun i o p hi hpi => hno i o p (hg i o hi) hpi, fun i o p hi hpi => ?_, fun i hi hni => ?_, hp.os, hp.tape, hp.output⟩
  · obtain ⟨o', e⟩ := hdom i o hi
    exact hr.small _ _ e
  · by_cases e : i = own
    · subst e
      rw [h1] at hi
      exact hp.rel.live _ _ _ hi hpi
    · rw [h3 i e] at hi
      have hsi := hs i p hpi
      cases hgi : g.get i with
      | some o' =>
        have e2 := hg _ _ hgi
        rw [hi] at e2
        cases e2
        exact hp.rel.live _ _ _ (hsame i o p e hgi hsi) hpi
      | none =>
        refine ((hr.live _ _ _ hi hsi).mono hp.ext).same (hp.frame _ (hr.dom _ _ hsi).2 fun j o' q hj hq hb => ?_)
        have := hr.inj j i o' o q p (hg _ _ hj) hi hq hsi hb
        rw [this, hgi] at hj
        cases hj
  · obtain ⟨o1, e1⟩ := hdom i o hi
    obtain ⟨o2, e2⟩ := hdom j o' hj
    exact hr.inj i j o1 o2 p q e1 e2 (hs _ _ hpi) (hs _ _ hqj) he
  · have := hr.dom i p (hs i p hi)
    have := hp.size
    omega
  · obtain ⟨o', e⟩ := hdom i o hi
    have := hr.top _ _ e
    omega
  · obtain ⟨o', e⟩ := hdom i o hi
    exact .inr ⟨i, o', p, e, hs i p hpi, rfl⟩
  · refine h3 i fun e => ?_
    subst e
    rw [hni] at hso
    cases hso
/-- A block that nothing lives in is written. -/
theorem Post.far {b : Nat} (hr : Rel P r h w) (hno : ∀ i o p, h.get i = some o → r i = some p → p.blk ≠ b) (hw : ∀ c, c ≠ b → w'.heap[c]? = w.heap[c]?) (hz : w'.heap.size = w.heap.size) :
    Rel P r h w' :=
  ⟨hr.small, fun i o p h1 h2 => (hr.live i o p h1 h2).same (hw _ (hno i o p h1 h2)), hr.inj, fun i p hp => by have := hr.dom i p hp; omega, hr.top⟩
end

/-! ### What the machine's walk says -/
theorem ifB2 {b c : Bool} (h : ifB b c false = true) : b = true ∧ c = true := by cases b <;> cases c <;> first | exact ⟨rfl, rfl⟩ | cases h
theorem mapsK_cons {h : AH} {t : Fr} {g : AH} {j : Nat} {l : List Nat} : mapsK h t g (j :: l) = mapsK h t g l ∨ ∃ o, ((evB (.tmp j)).f t).tag = 5 ∧ ((evB (.tmp j)).f t).a = 1 ∧ h.get ((evB (.tmp j)).f t).b = some o ∧ o.kind = 1 ∧ mapsK h t g (j :: l) = AH.put (mapsK h t g l) ((evB (.tmp j)).f t).b (some o) := by
  have e : mapsK h t g (j :: l) = ifB (Nat.beq ((evB (.tmp j)).f t).tag 5) (ifB (Nat.beq ((evB (.tmp j)).f t).a 1) (optK (mapsK h t g l) (h.get ((evB (.tmp j)).f t).b) fun o => ifB (Nat.beq o.kind 1) (AH.put (mapsK h t g l) ((evB (.tmp j)).f t).b (some o)) (mapsK h t g l)) (mapsK h t g l)) (mapsK h t g l) := rfl
  rw [e]
  cases h1 : Nat.beq ((evB (.tmp j)).f t).tag 5 with
  | false => exact .inl rfl
  | true =>
    cases h2 : Nat.beq ((evB (.tmp j)).f t).a 1 with
    | false => exact .inl rfl
    | true =>
      cases h3 : h.get ((evB (.tmp j)).f t).b with
      | none => exact .inl rfl
      | some o =>
        cases h4 : Nat.beq o.kind 1 with
        | false => left; show ifB (Nat.beq o.kind 1) _ _ = _; rw [h4]; rfl
        | true => exact .inr ⟨o, beq_of h1, beq_of h2, rfl, beq_of h4, by show ifB (Nat.beq o.kind 1) _ _ = _; rw [h4]; rfl⟩
theorem mapsK_get {h : AH} {t : Fr} {N : Nat} : ∀ (l : List Nat) (i : Nat) (o : OB), (mapsK h t ⟨.nil, N⟩ l).get i = some o → h.get i = some o ∧ o.kind = 1 ∧ ∃ j ∈ l, ((evB (.tmp j)).f t).tag = 5 ∧ ((evB (.tmp j)).f t).a = 1 ∧ ((evB (.tmp j)).f t).b = i
  | [], i, o, hg => by cases hg
  | j :: l, i, o, hg => by
    have old : (mapsK h t ⟨.nil, N⟩ l).get i = some o → h.get i = some o ∧ o.kind = 1 ∧ ∃ j' ∈ j :: l, ((evB (.tmp j')).f t).tag = 5 ∧ ((evB (.tmp j')).f t).a = 1 ∧ ((evB (.tmp j')).f t).b = i := fun e => by
      obtain ⟨h1, h0, j', h2, h3⟩ := mapsK_get l i o e
      exact ⟨h1, h0, j', List.mem_cons_of_mem _ h2, h3⟩
    rcases mapsK_cons (h := h) (t := t) (g := ⟨.nil, N⟩) (j := j) (l := l) with e | ⟨o', h1, h2, h3, h4, e⟩
    · rw [e] at hg; exact old hg
    · rw [e, AH.get_put] at hg
      split at hg
      · rename_i e2
        cases hg
        exact ⟨by rw [e2.1]; exact h3, h4, j, List.mem_cons_self, h1, h2, e2.1.symm⟩
      · exact old hg
theorem mapsK_next {h : AH} {t : Fr} {N : Nat} : ∀ (l : List Nat), (mapsK h t ⟨.nil, N⟩ l).next = N
  | [] => rfl
  | j :: l => by
    rcases mapsK_cons (h := h) (t := t) (g := ⟨.nil, N⟩) (j := j) (l := l) with e | ⟨o', h1, h2, h3, h4, e⟩
    · rw [e]; exact mapsK_next l
    · rw [e]; exact mapsK_next l
theorem sameMaps_ok {h g : AH} {t : Fr} : ∀ {l : List Nat}, sameMaps h g t l = true → ∀ j ∈ l, ((evB (.tmp j)).f t).tag = 5 → ((evB (.tmp j)).f t).a = 1 → mapEq (h.get ((evB (.tmp j)).f t).b) (g.get ((evB (.tmp j)).f t).b) = true
  | [], _, j, hj, _, _ => by cases hj
  | i :: l, hs, j, hj, h5, h1 => by
    have hs : ifB (Nat.beq ((evB (.tmp i)).f t).tag 5) (ifB (Nat.beq ((evB (.tmp i)).f t).a 1) (ifB (mapEq (h.get ((evB (.tmp i)).f t).b) (g.get ((evB (.tmp i)).f t).b)) (sameMaps h g t l) false) (sameMaps h g t l)) (sameMaps h g t l) = true := hs
    rcases List.mem_cons.1 hj with rfl | hj
    · rw [h5, h1] at hs
      exact (ifB2 hs).1
    · refine sameMaps_ok (l := l) ?_ j hj h5 h1
      cases e1 : Nat.beq ((evB (.tmp i)).f t).tag 5 with
      | false => rw [e1, ifB_f] at hs; exact hs
      | true =>
        rw [e1, ifB_t] at hs
        cases e2 : Nat.beq ((evB (.tmp i)).f t).a 1 with
        | false => rw [e2, ifB_f] at hs; exact hs
        | true => rw [e2, ifB_t] at hs; exact (ifB2 hs).2
theorem sameT_ok {t u : Fr} {l : List Nat} : ∀ {n : Nat}, sameT t u l n = true → ∀ i, i < n → l.elem i = false → (evB (.tmp i)).f t = (evB (.tmp i)).f u
  | 0, _, i, hi, _ => by omega
  | n + 1, hs, i, hi, hl => by
    have hs : ifB (l.elem n) (sameT t u l n) (ifB (avEq ((evB (.tmp n)).f t) ((evB (.tmp n)).f u)) (sameT t u l n) false) = true := hs
    cases e : l.elem n with
    | true =>
      rw [e, ifB_t] at hs
      refine sameT_ok hs i ?_ hl
      have : i ≠ n := fun e2 => by rw [e2, e] at hl; cases hl
      omega
    | false =>
      rw [e, ifB_f] at hs
      obtain ⟨h1, h2⟩ := ifB2 hs
      by_cases e2 : i = n
      · rw [e2]; exact avEq_ok h1
      · exact sameT_ok h2 i (by omega) hl
theorem junkK_get {t : Fr} {i : Nat} (hi : i < 512) : ∀ {l : List Nat}, (junkK t l).get i = if l.elem i then .junk else t.get i
  | [] => rfl
  | j :: l => by
    show (ifB (Nat.blt j 512) ((setF j).f (junkK t l) .junk) (junkK t l)).get i = _
    have ih := junkK_get (t := t) hi (l := l)
    have he : (j :: l).elem i = (i == j || l.elem i) := by
      rw [List.elem_cons]
      cases h : i == j <;> simp
    rw [he]
    cases hb : Nat.blt j 512 with
    | false =>
      have : ¬ j < 512 := fun e => by rw [show Nat.blt j 512 = true from Nat.ble_eq_true_of_le e] at hb; cases hb
      have hne : (i == j) = false := beq_eq_false_iff_ne.2 (by omega)
      rw [ifB_f, ih, hne, Bool.false_or]
    | true =>
      have hj : j < 512 := Nat.le_of_ble_eq_true hb
      rw [ifB_t, setF_get hi hj]
      by_cases e : i = j
      · subst e; simp
      · have hne : (i == j) = false := beq_eq_false_iff_ne.2 e
        rw [if_neg e, ih, hne, Bool.false_or]
theorem ownsOk_ok : ∀ {l : List ME}, ownsOk l = true → l.Pairwise fun e f => f.val.b ≠ e.val.b ∧ f.born ≠ e.born
  | [], _ => .nil
  | e :: l, h => by
    have h : ifB (l.all fun f => !Nat.beq f.val.b e.val.b && !Nat.beq f.born e.born) (ownsOk l) false = true := h
    obtain ⟨h1, h2⟩ := ifB2 h
    refine .cons (fun f hf => ?_) (ownsOk_ok h2)
    have := List.all_eq_true.1 h1 f hf
    simp only [Bool.and_eq_true, Bool.not_eq_true'] at this
    exact ⟨(fun e2 => by rw [e2, Nat.beq_refl] at this; cases this.1), (fun e2 => by rw [e2, Nat.beq_refl] at this; cases this.2)⟩
/-- What every entry's walk leaves, one behind the other. -/
theorem fold_res {res res' : Nat → OB} (l : List ME) : ∀ {h : AH}, (∀ e ∈ l, res e.born = res' e.born) → l.foldl (fun h e => h.put e.val.b (some (res e.born))) h = l.foldl (fun h e => h.put e.val.b (some (res' e.born))) h := by
  induction l with
  | nil => intro h _; simp only [List.foldl_nil]
  | cons e l ih =>
    intro h hr
    simp only [List.foldl_cons]
    rw [hr e List.mem_cons_self]
    exact ih fun f hf => hr f (List.mem_cons_of_mem _ hf)
theorem anyAll_ok {x : AV × AH} {one : ME → (OB → R) → R} {Good : ME → OB → Prop} (hone : ∀ e k, one e k = some x → ∃ o, Good e o ∧ k o = some x) : ∀ {l : List ME} {h : AH} {k : AH → R}, l.Pairwise (fun e f => f.born ≠ e.born) → anyAllK one l h k = some x →
    ∃ res : Nat → OB, k (l.foldl (fun h e => h.put e.val.b (some (res e.born))) h) = some x ∧ ∀ e ∈ l, Good e (res e.born)
  | [], h, k, _, hf => ⟨fun _ => .arr [] 0, hf, fun _ he => by cases he⟩
  | e :: l, h, k, hp, hf => by
    obtain ⟨hp1, hp2⟩ := List.pairwise_cons.1 hp
    have hf : one e (fun o => anyAllK one l (h.put e.val.b (some o)) k) = some x := hf
    obtain ⟨o, h2, h1⟩ := hone _ _ hf
    obtain ⟨res, h3, h4⟩ := anyAll_ok hone hp2 h1
    have hne : ∀ f ∈ l, (if f.born = e.born then o else res f.born) = res f.born := fun f hf => if_neg (hp1 f hf)
    refine ⟨fun b => if b = e.born then o else res b, ?_, fun f hf => ?_⟩
    · rw [List.foldl_cons]
      simp only [if_true]
      have e1 := fold_res (res := fun b => if b = e.born then o else res b) (res' := res) l (h := h.put e.val.b (some o)) hne
      rw [e1]
      exact h3
    · rcases List.mem_cons.1 hf with rfl | hf
      · simpa using h2
      · have e1 := hne f hf
        simp only [e1]
        exact h4 f hf

/-- The beginning and the end of an entry's walk. -/
noncomputable def anyT (q : AnyP) (J : List Nat) (n : Nat) (t : Fr) (e : ME) : Fr := (putF n (some q.e1)).f ((putF n (some q.c)).f ((putF n (some q.n1)).f (junkK t J) (.tup [.bool true, e.key, e.val])) (.bool true)) (.tup [e.key, e.val])
noncomputable def anyEnd (q : AnyP) (J sh : List Nat) (n : Nat) (t : Fr) (h : AH) : KC := fun y x t' h' =>
  ifB (ifB (Nat.beq y 0) true (ifB (Nat.beq y 1) (Nat.beq x q.id2) false)) (ifB (Nat.beq h'.next h.next) (ifB (sameT (junkK t J) t' J n) (ifB (sameMaps h' h t sh) (some (.undef, h')) none) none) none) none
theorem anyEnd_ok {q : AnyP} {J sh : List Nat} {n : Nat} {t t' : Fr} {h h' : AH} {y o : Nat} {p : AV × AH} (hf : anyEnd q J sh n t h y o t' h' = some p) : (y = 0 ∨ (y = 1 ∧ o = q.id2)) ∧ h'.next = h.next ∧ sameT (junkK t J) t' J n = true ∧ sameMaps h' h t sh = true ∧ p.2 = h' := by
  obtain ⟨h1, hf⟩ := ifB_some hf
  obtain ⟨h2, hf⟩ := ifB_some hf
  obtain ⟨h3, hf⟩ := ifB_some hf
  obtain ⟨h4, hf⟩ := ifB_some hf
  refine ⟨?_, beq_of h2, h3, h4, by cases hf; rfl⟩
  cases hy : Nat.beq y 0 with
  | true => exact .inl (beq_of hy)
  | false =>
    rw [hy, ifB_f] at h1
    obtain ⟨h5, h6⟩ := ifB2 h1
    exact .inr ⟨beq_of h5, beq_of h6⟩
structure GoodE (q : AnyP) (J sh : List Nat) (n : Nat) (body : CodeT) (call : CallT) (t : Fr) (h : AH) (e : ME) (o : OB) : Prop where
  tag : e.val.tag = 4
  one : e.val.a = 1
  walk : ∃ o1 p, h.get e.val.b = some o1 ∧ o1.kind = 0 ∧ body call (anyT q J n t e) (AH.put (mapsK h t ⟨.nil, h.next⟩ sh) e.val.b (some o1)) (anyEnd q J sh n t h) = some p ∧ p.2.get e.val.b = some o
theorem anyOne_ok {q : AnyP} {J sh : List Nat} {n : Nat} {body : CodeT} {call : CallT} {t : Fr} {h : AH} {x : AV × AH} (e : ME) (k : OB → R) (hf : anyOneK q J sh n body call t h e k = some x) : ∃ o, GoodE q J sh n body call t h e o ∧ k o = some x := by
  obtain ⟨h1, hf⟩ := ifB_some hf
  obtain ⟨h2, hf⟩ := ifB_some hf
  obtain ⟨o1, h3, hf⟩ := optK_some hf
  obtain ⟨h4, hf⟩ := ifB_some hf
  obtain ⟨p, h5, hf⟩ := optK_some hf
  obtain ⟨o, h6, hf⟩ := optK_some hf
  exact ⟨o, ⟨beq_of h1, beq_of h2, o1, p, h3, beq_of h4, h5, h6⟩, hf⟩

/-- Memory after some entries have been walked. -/
noncomputable def putAll (res : Nat → OB) (l : List ME) (h : AH) : AH := l.foldl (fun h e => h.put e.val.b (some (res e.born))) h
theorem putAll_next (res : Nat → OB) (l : List ME) : ∀ h : AH, (putAll res l h).next = h.next := by
  unfold putAll
  induction l with
  | nil => intro h; simp only [List.foldl_nil]
  | cons e l ih => intro h; rw [List.foldl_cons, ih]; rfl
theorem putAll_get {res : Nat → OB} (l : List ME) : ∀ (h : AH), l.Pairwise (fun e f => f.val.b ≠ e.val.b) → (∀ e ∈ l, e.val.b + 1 < 16777216) → ∀ i, (∀ e ∈ l, e.val.b = i → (putAll res l h).get i = some (res e.born)) ∧ ((∀ e ∈ l, e.val.b ≠ i) → (putAll res l h).get i = h.get i) := by
  unfold putAll
  induction l with
  | nil => intro h _ _ i; exact ⟨(fun e he => by cases he), (fun _ => by simp only [List.foldl_nil])⟩
  | cons e l ih =>
    intro h hp hs i
    obtain ⟨hp1, hp2⟩ := List.pairwise_cons.1 hp
    obtain ⟨i1, i2⟩ := ih (h.put e.val.b (some (res e.born))) hp2 (fun f hf => hs f (List.mem_cons_of_mem _ hf)) i
    rw [List.foldl_cons]
    refine ⟨fun f hf hfi => ?_, fun hno => ?_⟩
    · rcases List.mem_cons.1 hf with rfl | hf
      · rw [i2 fun g hg e => hp1 g hg (e.trans hfi.symm), AH.get_put, if_pos ⟨hfi.symm, hs f List.mem_cons_self⟩]
      · exact i1 f hf hfi
    · rw [i2 fun g hg => hno g (List.mem_cons_of_mem _ hg), AH.get_put, if_neg fun e2 => hno e List.mem_cons_self e2.1.symm]
end Go.Proofs.YtlclpcobblojnaaGreatDoor
/- The machine for closed runs: a range over a map in any order: the walk. -/
namespace Go.Proofs.YtlclpcobblojnaaGreatDoor

section
variable {P : Program} {n m : Nat} {call : CallT} {q : AnyP} {J sh : List Nat} {body : CodeT} {t : Fr} {r s : Ren} {h : AH} {w w' w2 : World} {a : Act}

/-- A block that lived, and lives no more, is written. -/
theorem Post.far2 {g : AH} {b i : Nat} {o : OB} {p : Pl} (hp : Post P r h w s g w') (hi : h.get i = some o) (hri : r i = some p) (hb : p.blk = b) (hno : ∀ i o p, g.get i = some o → s i = some p → p.blk ≠ b) (hw : ∀ c, c ≠ b → w2.heap[c]? = w'.heap[c]?) (hz : w2.heap.size = w'.heap.size)
    (h1 : w2.os = w'.os) (h2 : w2.tape = w'.tape) (h3 : w2.output = w'.output) : Post P r h w s g w2 :=
  ⟨Post.far hp.rel hno hw hz, hp.ext, hp.new, hp.nxt, by have := hp.size; omega, fun c hc hnl => by rw [hw c fun e => hnl i o p hi hri (hb.trans e.symm)]; exact hp.frame c hc hnl, hp.own, hp.keep, h1.trans hp.os, h2.trans hp.tape, h3.trans hp.output⟩

theorem MEs.mem2 : ∀ {es : List ME} {Es : List MapEntry}, MEs r es Es → ∀ E ∈ Es, ∃ e ∈ es, E.born = e.born ∧ VR r e.key E.key ∧ VR r e.val E.val
  | _, _, .nil, _, h => by cases h
  | _, _, .cons hk hv hb t, E, h => by
    rcases List.mem_cons.1 h with rfl | h
    · exact ⟨_, List.mem_cons_self, hb, hk, hv⟩
    · obtain ⟨e, h1, h2⟩ := MEs.mem2 t E h
      exact ⟨e, List.mem_cons_of_mem _ h1, h2⟩
theorem MEs.borns : ∀ {es : List ME} {Es : List MapEntry}, MEs r es Es → Es.map (·.born) = es.map (·.born)
  | _, _, .nil => rfl
  | _, _, .cons _ _ hb t => by simp [hb, MEs.borns t]

/-- What stands while entries are walked. -/
structure AnyS (P : Program) (n m : Nat) (J : List Nat) (t : Fr) (r : Ren) (h : AH) (w : World) (es : List ME) (res : Nat → OB) (itid : Nat) (pit pm : Pl) (cur : Array MapEntry) (clock : Nat) (seen : Array Nat) (s : Ren) (a' : Act) (w' : World) : Prop where
  fr : FrR s (junkK t J) a'.tmps
  sz : a'.tmps.size = n
  marks : Marks m w' a'.defers
  itr : w'.heap[pit.blk]? = some (.mapIter (some pm.blk) clock seen clock)
  mp : w'.heap[pm.blk]? = some (.map cur clock)
  post : Post P r h w s (putAll res (es.filter fun e => seen.contains e.born) (h.put itid none)) w'

/-- What is done with an entry, behind 'entry' itself. -/
theorem any_body {rd : Bool} {ro : Option Nat} {o21 : Array Oper} {tail : List Oper} {e0 : Oper} {rest : Code} {fr : CodeT} {k : KC} {x : AV × AH} {h' : AH} {t' : Fr} {Q : Exit → Act → World → Prop} (hc : CallOk P call) (hrest : CodeOk P n call rest fr rd) (hro : rd = false → ro = none) (ho : o21.toList = e0 :: tail)
    (hf : seqC (opsB P n o21 tail).f fr call t' h' k = some x) (hs : St P n m s t' h' a w') (hQ : ∀ e a2 w2, After P n m k x s h' w' e a2 w2 → Q e a2 w2) :
    wpOpsIn (fw ro) 0 P o21 (Exit.then (rest.wpIn (fw ro) 0 P Q) Q) (List.range' 1 tail.length) a w' := by
  refine ops_ok (ro := ro) hc tail 1 (fun j => ?_) t' h' s a w' hf hs fun e a2 w2 he => ?_
  · have : o21[1 + j]? = o21.toList[1 + j]? := by simp
    rw [this, ho, Nat.add_comm]
    simp
  · obtain ⟨y, o, t2, h2, s2, h1, rfl, h3, h4⟩ := he
    have h1 : ifB (Nat.beq y 0) (fr call t2 h2 k) (k y o t2 h2) = some x := h1
    cases hy : Nat.beq y 0 with
    | true =>
      rw [hy, ifB_t] at h1
      have := beq_of hy
      subst this
      exact wpIn_mono (hrest ro m t2 h2 k x s2 a2 w2 hro h1 h3) fun e a3 w3 he => hQ _ _ _ (he.trans h4)
    | false =>
      rw [hy, ifB_f] at h1
      have hq : Q (exitOf y o) a2 w2 := hQ _ _ _ ⟨y, o, t2, h2, s2, h1, rfl, h3, h4⟩
      match y, hy, hq with
      | 0, hy, _ => cases hy
      | 1, _, hq => exact hq
      | _ + 2, _, hq => exact hq

theorem elem_cons_self (a : Nat) (l : List Nat) : (a :: l).elem a = true := by simp
/-- The temporaries at an entry's beginning. -/
theorem any_frame {e1 c n1 : Nat} {a' : Act} {v1 v3 : AV} {u1 u3 : Value} (hn : n ≤ 512) (hf : FrR s (junkK t J) a'.tmps) (hz : a'.tmps.size = n) (h1 : VR s v1 u1) (h3 : VR s v3 u3) (b : Bool) :
    FrR s ((putF n (some e1)).f ((putF n (some c)).f ((putF n (some n1)).f (junkK t J) v1) (.bool b)) v3) (((a'.put (some n1) u1).put (some c) (.bool b)).put (some e1) u3).tmps := by
  have k1 := hf.put s.le_refl hn hz (some n1) h1
  have k2 := k1.put s.le_refl hn (put_size.trans hz) (some c) (VR.bool b)
  exact k2.put s.le_refl hn (put_size.trans (put_size.trans hz)) (some e1) h3
/-- Temporaries that are not looked at any more. -/
theorem FrR.junk {t' : Fr} {tmps : Array Value} (hn : n ≤ 512) (hz : tmps.size = n) (hf : FrR s t' tmps) (hs : sameT (junkK t J) t' J n = true) (hold : ∀ i, n ≤ i → i < 512 → VR s ((junkK t J).get i) undef) : FrR s (junkK t J) tmps := by
  intro i hi
  by_cases hin : i < n
  · cases hJ : J.elem i with
    | true =>
      rw [junkK_get hi, hJ]
      exact .junk _
    | false =>
      have := sameT_ok hs i hin hJ
      rw [ev_get _ hi, ev_get _ hi] at this
      rw [this]
      exact hf i hi
  · have e : tmps.getD i undef = undef := by simp [Array.getD_eq_getD_getElem?, Array.getElem?_eq_none (by omega : tmps.size ≤ i)]
    rw [e]
    exact hold i (by omega) hi
end
end Go.Proofs.YtlclpcobblojnaaGreatDoor
/- The machine for closed runs: a range over a map in any order: one entry. -/
namespace Go.Proofs.YtlclpcobblojnaaGreatDoor

section
variable {P : Program} {n m : Nat} {call : CallT} {q : AnyP} {J sh : List Nat} {body : CodeT} {t : Fr} {r s : Ren} {h : AH} {w w2 : World} {es : List ME} {res : Nat → OB} {itid mid : Nat} {pit pm : Pl} {cur : Array MapEntry} {clock : Nat} {seen : Array Nat}

/-- What is known ahead of the loop. -/
structure AnyH (P : Program) (n : Nat) (call : CallT) (q : AnyP) (J sh : List Nat) (body : CodeT) (t : Fr) (r : Ren) (h : AH) (w : World) (es : List ME) (res : Nat → OB) (itid mid : Nat) (pit pm : Pl) : Prop where
  rel : Rel P r h w
  it : r itid = some pit
  itk : ∃ o, h.get itid = some o ∧ o.kind = 3
  mp : r mid = some pm
  mpk : ∃ o, h.get mid = some o ∧ o.kind = 1
  mno : (mapsK h t ⟨.nil, h.next⟩ sh).get mid = none
  good : ∀ e ∈ es, GoodE q J sh n body call t h e (res e.born)
  apart : es.Pairwise fun e f => f.val.b ≠ e.val.b ∧ f.born ≠ e.born
  le : n ≤ 512
  junk : ∀ i, n ≤ i → i < 512 → VR r ((junkK t J).get i) undef

theorem AnyH.own (H : AnyH P n call q J sh body t r h w es res itid mid pit pm) {e : ME} (he : e ∈ es) : ∃ o, h.get e.val.b = some o ∧ o.kind = 0 := by
  obtain ⟨o1, p, h1, h2, -⟩ := (H.good e he).walk
  exact ⟨o1, h1, h2⟩
theorem pairwise_ne {α : Type} {R : α → α → Prop} (hsym : ∀ x y, R x y → R y x) : ∀ {l : List α}, l.Pairwise R → ∀ x ∈ l, ∀ y ∈ l, x ≠ y → R x y
  | [], _, x, hx, _, _, _ => by cases hx
  | a :: l, hp, x, hx, y, hy, hne => by
    obtain ⟨h1, h2⟩ := List.pairwise_cons.1 hp
    rcases List.mem_cons.1 hx with e1 | hx1 <;> rcases List.mem_cons.1 hy with e2 | hy1
    · exact absurd (e1.trans e2.symm) hne
    · rw [e1]; exact h1 y hy1
    · rw [e2]; exact hsym _ _ (h1 x hx1)
    · exact pairwise_ne hsym h2 x hx1 y hy1 hne
/-- Memory after some entries: what it holds. -/
theorem AnyH.get (H : AnyH P n call q J sh body t r h w es res itid mid pit pm) (D : ME → Bool) (i : Nat) :
    (∀ e ∈ es, D e = true → e.val.b = i → (putAll res (es.filter D) (h.put itid none)).get i = some (res e.born)) ∧
    ((∀ e ∈ es, D e = true → e.val.b ≠ i) → i ≠ itid → (putAll res (es.filter D) (h.put itid none)).get i = h.get i) ∧
    ((∀ e ∈ es, D e = true → e.val.b ≠ i) → i = itid → (putAll res (es.filter D) (h.put itid none)).get i = none) := by
  have hsm : ∀ e ∈ es.filter D, e.val.b + 1 < 16777216 := fun e he => by
    obtain ⟨o, h1, -⟩ := H.own (List.mem_filter.1 he).1
    exact H.rel.small _ _ h1
  obtain ⟨h1, h2⟩ := putAll_get (res := res) (es.filter D) (h.put itid none) ((H.apart.imp fun hh => hh.1).filter _) hsm i
  have hno : (∀ e ∈ es, D e = true → e.val.b ≠ i) → ∀ e ∈ es.filter D, e.val.b ≠ i := fun hn e he => hn e (List.mem_filter.1 he).1 (List.mem_filter.1 he).2
  obtain ⟨o, ho, -⟩ := H.itk
  refine ⟨fun e he hD hb => h1 e (List.mem_filter.2 ⟨he, hD⟩) hb, fun hn hi => ?_, fun hn hi => ?_⟩
  · rw [h2 (hno hn), AH.get_put, if_neg fun e => hi e.1]
  · rw [h2 (hno hn), AH.get_put, if_pos ⟨hi, H.rel.small _ _ ho⟩]

/-- Behind an entry's walk. -/
theorem AnyH.after (H : AnyH P n call q J sh body t r h w es res itid mid pit pm) {e : ME} (he : e ∈ es) {D : ME → Bool} (hD : D e = false) {o1 : OB} (ho1 : h.get e.val.b = some o1) {p : AV × AH} (hpg : p.2.get e.val.b = some (res e.born))
    (hpost : Post P r h w s (putAll res (es.filter D) (h.put itid none)) w2) (hown : (s e.val.b).isSome = true) {ex : Exit} {a3 : Act} {w3 : World}
    (ha : After P n m (anyEnd q J sh n t h) p s (AH.put (mapsK h t ⟨.nil, h.next⟩ sh) e.val.b (some o1)) w2 ex a3 w3) {D' : ME → Bool} (hD' : ∀ f ∈ es, D' f = (D f || Nat.beq f.born e.born)) :
    (ex = .normal ∨ ex = .exit q.id2) ∧ ∃ s3, FrR s3 (junkK t J) a3.tmps ∧ a3.tmps.size = n ∧ Marks m w3 a3.defers ∧ Post P r h w s3 (putAll res (es.filter D') (h.put itid none)) w3 ∧ ∀ b, b < w2.heap.size → (∀ i o pl, (AH.put (mapsK h t ⟨.nil, h.next⟩ sh) e.val.b (some o1)).get i = some o → s i = some pl → pl.blk ≠ b) → w3.heap[b]? = w2.heap[b]? := by
  obtain ⟨y, o, t', h', s3, k1, rfl, k2, k3⟩ := ha
  obtain ⟨k4, k5, k6, k7, k8⟩ := anyEnd_ok k1
  rw [k8] at hpg
  have hapart : ∀ f ∈ es, f.born ≠ e.born → f.val.b ≠ e.val.b := fun f hf hne => (pairwise_ne (R := fun e f => f.val.b ≠ e.val.b ∧ f.born ≠ e.born) (fun x y hh => ⟨fun e => hh.1 e.symm, fun e => hh.2 e.symm⟩) H.apart e he f hf fun e2 => hne (by rw [e2])).1
  have hbne : ∀ f ∈ es, D f = true → f.val.b ≠ e.val.b := fun f hf hDf e2 => by
    by_cases hb : f.born = e.born
    · have : f = e := Classical.byContradiction fun hne => (pairwise_ne (R := fun e f => f.val.b ≠ e.val.b ∧ f.born ≠ e.born) (fun x y hh => ⟨fun e => hh.1 e.symm, fun e => hh.2 e.symm⟩) H.apart f hf e he hne).2 hb.symm
      rw [this, hD] at hDf; cases hDf
    · exact hapart f hf hb e2
  obtain ⟨oi, hoi, hoik⟩ := H.itk
  obtain ⟨oe, hoe, hoek⟩ := H.own he
  have heit : e.val.b ≠ itid := fun e2 => by
    rw [e2, hoi] at hoe; cases hoe; omega
  have hSe : (putAll res (es.filter D) (h.put itid none)).get e.val.b = some o1 := by
    rw [(H.get D e.val.b).2.1 hbne heit]; exact ho1
  have hmaps : ∀ i o, (mapsK h t ⟨.nil, h.next⟩ sh).get i = some o → (putAll res (es.filter D) (h.put itid none)).get i = some o ∧ i ≠ e.val.b := fun i o hi => by
    obtain ⟨g1, g2, -⟩ := mapsK_get _ _ _ hi
    have hne : ∀ f ∈ es, f.val.b ≠ i := fun f hf e2 => by
      obtain ⟨of, hof, hofk⟩ := H.own hf
      rw [e2, g1] at hof; cases hof; omega
    have hit : i ≠ itid := fun e2 => by
      rw [e2, hoi] at g1; cases g1; omega
    exact ⟨by rw [(H.get D i).2.1 (fun f hf _ => hne f hf) hit]; exact g1, fun e2 => hne e he e2.symm⟩
  have hput : ∀ i o, (AH.put (mapsK h t ⟨.nil, h.next⟩ sh) e.val.b (some o1)).get i = some o → (i = e.val.b ∧ o = o1) ∨ (mapsK h t ⟨.nil, h.next⟩ sh).get i = some o := fun i o hi => by
    rw [AH.get_put] at hi
    split at hi
    · rename_i e2
      cases hi
      exact .inl ⟨e2.1, rfl⟩
    · exact .inr hi
  have hSn : (putAll res (es.filter D) (h.put itid none)).next = h.next := by rw [putAll_next]; rfl
  have hS'n : (putAll res (es.filter D') (h.put itid none)).next = h.next := by rw [putAll_next]; rfl
  have hgn : (AH.put (mapsK h t ⟨.nil, h.next⟩ sh) e.val.b (some o1)).next = h.next := by rw [AH.next_put, mapsK_next]
  have hDe : D' e = true := by rw [hD' e he, Nat.beq_refl, Bool.or_true]
  have hu := Post.union (h := putAll res (es.filter D) (h.put itid none)) (h' := putAll res (es.filter D') (h.put itid none)) (own := e.val.b) hpost.rel (fun i o hi => by
      rcases hput i o hi with ⟨rfl, rfl⟩ | hi
      · exact hSe
      · exact (hmaps i o hi).1) (hgn.trans hSn.symm) k3 (k5.trans hSn.symm) (hS'n.trans hSn.symm) (by rw [hSe]; rfl) hown
    (by rw [(H.get D' e.val.b).1 e he hDe rfl, hpg]) (fun i hi => by
      by_cases hex : ∃ f ∈ es, D f = true ∧ f.val.b = i
      · obtain ⟨f, hf, hDf, hfi⟩ := hex
        rw [(H.get D i).1 f hf hDf hfi, (H.get D' i).1 f hf (by rw [hD' f hf, hDf]; rfl) hfi]
      · have hn1 : ∀ f ∈ es, D f = true → f.val.b ≠ i := fun f hf hDf hfi => hex ⟨f, hf, hDf, hfi⟩
        have hn2 : ∀ f ∈ es, D' f = true → f.val.b ≠ i := fun f hf hDf hfi => by
          rw [hD' f hf, Bool.or_eq_true] at hDf
          rcases hDf with hDf | hb
          · exact hn1 f hf hDf hfi
          · have hb := beq_of hb
            have hfe : f ≠ e := fun e2 => hi (by rw [← hfi, e2])
            exact (pairwise_ne (R := fun e f => f.val.b ≠ e.val.b ∧ f.born ≠ e.born) (fun x y hh => ⟨fun e => hh.1 e.symm, fun e => hh.2 e.symm⟩) H.apart f hf e he hfe).2 hb.symm
        by_cases hit : i = itid
        · rw [(H.get D i).2.2 hn1 hit, (H.get D' i).2.2 hn2 hit]
        · rw [(H.get D i).2.1 hn1 hit, (H.get D' i).2.1 hn2 hit])
    (fun i o pl hi hg hsi => by
      rcases hput i o hg with ⟨e2, -⟩ | hg
      · exact absurd e2 hi
      · obtain ⟨g1, g2, j, hj, h5, h6, h7⟩ := mapsK_get _ _ _ hg
        have hm := sameMaps_ok k7 j hj h5 h6
        rw [h7] at hm
        obtain ⟨a, b, m1, m2, m3, m4, m5, m6⟩ := mapEq_ok hm
        rw [g1] at m2
        cases m2
        rw [m1, Rel.same_map k2.rel hpost.rel m1 (hmaps i o hg).1 (k3.ext _ _ hsi) hsi m3 m4 m5 m6])
  refine ⟨?_, s3, FrR.junk H.le k2.sz k2.fr k6 (fun i h1 h2 => (H.junk i h1 h2).mono (Ren.le_trans hpost.ext k3.ext)), k2.sz, k2.marks, hpost.trans hu, fun b hb hno => k3.frame b hb hno⟩
  rcases k4 with rfl | ⟨rfl, rfl⟩
  · exact .inl rfl
  · exact .inr rfl
end
end Go.Proofs.YtlclpcobblojnaaGreatDoor
/- The machine for closed runs: a range over a map in any order: the loop. -/
namespace Go.Proofs.YtlclpcobblojnaaGreatDoor
open Go.ChangeMaps

section
variable {P : Program} {n m : Nat} {call : CallT} {q : AnyP} {J sh : List Nat} {body : CodeT} {t : Fr} {r s : Ren} {h : AH} {w w1 w' : World} {es : List ME} {res : Nat → OB} {itid mid : Nat} {pit pm : Pl} {cur : Array MapEntry} {clock : Nat} {seen : Array Nat}

/-- Nothing lives in the iterator's block, nor in the map's, as far as an entry's walk sees. -/
theorem AnyH.off (H : AnyH P n call q J sh body t r h w es res itid mid pit pm) {D : ME → Bool} (hpost : Post P r h w s (putAll res (es.filter D) (h.put itid none)) w') : ∀ i o p, (putAll res (es.filter D) (h.put itid none)).get i = some o → s i = some p → p.blk ≠ pit.blk := by
  intro i o p hi hs hb
  have hlt : i < h.next := by
    have := hpost.rel.top _ _ hi
    rwa [putAll_next] at this
  have hri : r i = some p := by
    rcases hpost.new i p hs with e | e
    · exact e
    · omega
  obtain ⟨oi, hoi, -⟩ := H.itk
  have hhi : ∃ o', h.get i = some o' := by
    by_cases hex : ∃ f ∈ es, D f = true ∧ f.val.b = i
    · obtain ⟨f, hf, -, hfi⟩ := hex
      obtain ⟨o', h1, -⟩ := H.own hf
      exact ⟨o', hfi ▸ h1⟩
    · have hn : ∀ f ∈ es, D f = true → f.val.b ≠ i := fun f hf hDf hfi => hex ⟨f, hf, hDf, hfi⟩
      by_cases hit : i = itid
      · rw [(H.get D i).2.2 hn hit] at hi; cases hi
      · rw [(H.get D i).2.1 hn hit] at hi; exact ⟨o, hi⟩
  obtain ⟨o', hh⟩ := hhi
  have := H.rel.inj i itid o' oi p pit hh hoi hri H.it hb
  subst this
  by_cases hex : ∃ f ∈ es, D f = true ∧ f.val.b = i
  · obtain ⟨f, hf, -, hfi⟩ := hex
    obtain ⟨o2, h1, h2⟩ := H.own hf
    obtain ⟨o3, h3, h4⟩ := H.itk
    rw [hfi, h3] at h1
    cases h1
    omega
  · have hn : ∀ f ∈ es, D f = true → f.val.b ≠ i := fun f hf hDf hfi => hex ⟨f, hf, hDf, hfi⟩
    rw [(H.get D i).2.2 hn rfl] at hi
    cases hi

theorem AnyH.off2 (H : AnyH P n call q J sh body t r h w es res itid mid pit pm) {g : AH} (hpost : Post P r h w s g w') {e : ME} (he : e ∈ es) {o1 : OB} : ∀ i o p, (AH.put (mapsK h t ⟨.nil, h.next⟩ sh) e.val.b (some o1)).get i = some o → s i = some p → p.blk ≠ pm.blk := by
  intro i o p hi hs hb
  have hk : ∃ o', h.get i = some o' ∧ (i = e.val.b ∨ (mapsK h t ⟨.nil, h.next⟩ sh).get i = some o) := by
    rw [AH.get_put] at hi
    split at hi
    · rename_i e2
      obtain ⟨o', h1, -⟩ := H.own he
      exact ⟨o', e2.1 ▸ h1, .inl e2.1⟩
    · exact ⟨o, (mapsK_get _ _ _ hi).1, .inr hi⟩
  obtain ⟨o', h1, h2⟩ := hk
  have hlt := H.rel.top _ _ h1
  have hri : r i = some p := by
    rcases hpost.new i p hs with e | e
    · exact e
    · omega
  obtain ⟨om, hm, hmk⟩ := H.mpk
  have := H.rel.inj i mid o' om p pm h1 hm hri H.mp hb
  subst this
  rcases h2 with h2 | h2
  · obtain ⟨o3, h3, h4⟩ := H.own he
    rw [← h2, hm] at h3
    cases h3
    omega
  · rw [H.mno] at h2
    cases h2
theorem AnyH.off3 (H : AnyH P n call q J sh body t r h w es res itid mid pit pm) {g : AH} (hpost : Post P r h w s g w') {e : ME} (he : e ∈ es) {o1 : OB} : ∀ i o p, (AH.put (mapsK h t ⟨.nil, h.next⟩ sh) e.val.b (some o1)).get i = some o → s i = some p → p.blk ≠ pit.blk := by
  intro i o p hi hs hb
  have hk : ∃ o', h.get i = some o' ∧ o'.kind ≠ 3 := by
    rw [AH.get_put] at hi
    split at hi
    · rename_i e2
      obtain ⟨o', h1, h2⟩ := H.own he
      exact ⟨o', e2.1 ▸ h1, by omega⟩
    · have := mapsK_get _ _ _ hi
      exact ⟨o, this.1, by have := this.2.1; omega⟩
  obtain ⟨o', h1, h2⟩ := hk
  have hlt := H.rel.top _ _ h1
  have hri : r i = some p := by
    rcases hpost.new i p hs with e | e
    · exact e
    · omega
  obtain ⟨oi, hi', hik⟩ := H.itk
  have := H.rel.inj i itid o' oi p pit h1 hi' hri H.it hb
  subst this
  rw [hi'] at h1
  cases h1
  exact h2 hik

theorem FrR.junk_put {a : Act} (hf : FrR s (junkK t J) a.tmps) {d : Nat} (hd : J.elem d = true) (v : Value) : FrR s (junkK t J) (a.put (some d) v).tmps := fun i hi => by
  by_cases e : i = d
  · subst e
    rw [junkK_get hi, hd]
    exact .junk _
  · rw [put_ne (fun e2 => e (Option.some.inj e2).symm)]
    exact hf i hi
theorem put_tmp_ne {a : Act} {d j : Nat} {v : Value} (h : j ≠ d) : (a.put (some d) v).eval (.tmp j) = a.eval (.tmp j) := put_ne fun e => h (Option.some.inj e).symm
theorem put_tmp_eq {a : Act} {d : Nat} {v : Value} (h : d < a.tmps.size) : (a.put (some d) v).eval (.tmp d) = v := put_eq h

/-- How far the loop has come. -/
def anyM (b : Nat) (cur : Array MapEntry) (w : World) : Nat :=
  match w.heap[b]? with
  | some (.mapIter _ _ seen _) => (leftOf cur seen).size
  | _ => 0

/-- The loop. -/
theorem AnyH.loop {rd : Bool} {ro : Option Nat} {id id2 : Nat} {rid1 rid2 : Nat} {o20 o21 : Array Oper} {x20 x21 e0 : Oper} {tail : List Oper} {rest : Code} {fr : CodeT} {k : KC} {x : AV × AH} {a : Act} (hc : CallOk P call) (hrest : CodeOk P n call rest fr rd) (hro : rd = false → ro = none)
    (H : AnyH P n call q J sh (seqC (opsB P n o21 tail).f fr) t r h w es res itid mid pit pm)
    (h20 : o20.toList = [x20, x21]) (h21 : o21.toList = e0 :: tail) (p1 : x20.op = .next (.tmp q.it) false) (p2 : x21.op = .extract (.tmp q.n1) 0) (p3 : e0.op = .entry (.tmp q.it)) (d1 : x20.dst = some q.n1) (d2 : x21.dst = some q.c) (d3 : e0.dst = some q.e1)
    (g1 : x20.guard = none) (g2 : x21.guard = none) (g3 : e0.guard = none) (i1 : q.it ≠ q.n1) (i2 : q.it ≠ q.c) (hid2 : q.id2 = id2) (l1 : q.n1 < n) (l2 : q.c < n)
    (j0 : J.elem q.it = false) (j1 : J.elem q.n1 = true) (j2 : J.elem q.c = true) (hit : q.it < 512) (htv : t.get q.it = .ptr itid 0) (hb0 : pit.base = 0)
    (hm1 : w.heap[pm.blk]? = some (.map cur clock)) (hm2 : MEs r es cur.toList) (hm3 : ∀ e ∈ es, e.born < clock) (hm4 : w.heap[pit.blk]? = some (.mapIter (some pm.blk) clock #[] clock))
    (hs : St P n m r t h a w) (hk : k 0 0 (junkK t J) (putAll res es (h.put itid none)) = some x) :
    (Code.block id (.loop (.seq (.region rid1 o20 false) (.seq (.cond (.tmp q.c) .skip (.exit id)) (.block id2 (.seq (.region rid2 o21 false) rest)))))).wpIn (fw ro) 0 P (After P n m k x r h w) a w := by
  have hsz20 : o20.size = 2 := by have := congrArg List.length h20; simpa using this
  have hsz21 : o21.size = tail.length + 1 := by have := congrArg List.length h21; simpa using this
  have ho0 : o20[0]? = some x20 := by have : o20[0]? = o20.toList[0]? := by simp
                                      rw [this, h20]; rfl
  have ho1 : o20[1]? = some x21 := by have : o20[1]? = o20.toList[1]? := by simp
                                      rw [this, h20]; rfl
  have hoe : o21[0]? = some e0 := by have : o21[0]? = o21.toList[0]? := by simp
                                     rw [this, h21]; rfl
  have hborn : ∀ X ∈ cur.toList, X.born < clock := fun X hX => by
    obtain ⟨e, q1, q2⟩ := hm2.mem X hX
    rw [q2]; exact hm3 e q1
  have hnd : (cur.toList.map (·.born)).Nodup := by
    rw [hm2.borns]
    rw [List.nodup_iff_pairwise_ne, List.pairwise_map]
    exact H.apart.imp fun hh e => hh.2 e.symm
  let I : Act → World → Prop := fun a' w' => ∃ s seen, AnyS P n m J t r h w es res itid pit pm cur clock seen s a' w'
  refine wpIn_block (wpIn_loop I (fun _ w' => anyM pit.blk cur w') ⟨r, #[], ⟨fun i hi => ?_, hs.sz, hs.marks, hm4, hm1, ?_⟩⟩ fun a' w' hI => ?_)
  · by_cases hJ : J.elem i = true
    · rw [junkK_get hi, hJ]; exact .junk _
    · rw [junkK_get hi, if_neg hJ]; exact hs.fr i hi
  · have : es.filter (fun e => (#[] : Array Nat).contains e.born) = [] := by simp
    rw [this]
    exact Post.drop hs.rel itid H.it
  obtain ⟨s, seen, S⟩ := hI
  have hev : a'.eval (.tmp q.it) = .pointer (some ⟨pit.blk, 0, none⟩) := by
    have h1 := S.fr q.it hit
    rw [junkK_get hit, j0, if_neg (by simp), htv] at h1
    obtain ⟨p, h2, h3, -⟩ := h1.inv3 rfl rfl
    have h2' : s itid = some p := h2
    rw [S.post.ext _ _ H.it] at h2'
    cases h2'
    have h3' : a'.tmps.getD q.it undef = .pointer (some ⟨pit.blk, pit.base + 0, none⟩) := h3
    rw [hb0] at h3'
    exact h3'
  have hM : anyM pit.blk cur w' = (leftOf cur seen).size := by simp [anyM, S.itr]
  have hlen : w'.heap.size > pit.blk := (Array.getElem?_eq_some_iff.1 S.itr).1
  refine wpIn_seq (wpIn_region ?_)
  rw [hsz20, show List.range 2 = [0, 1] from rfl, wpOpsIn_cons]
  rcases run_next_at (P := P) w' x20.type pit.blk pm.blk clock clock seen cur clock S.itr S.mp hborn (Nat.le_refl _) with ⟨hn0, hrun⟩ | ⟨E, hE, w1, hw1, hrun⟩
  · refine wp_value (v' := .tuple #[.bool false]) (w' := w') ho0 (wanted_none g1 _) (fun c e => by rw [p1] at e; cases e) ?_ ?_
    · simp only [execOp, p1, hev, hrun, Sem.run_bind, Result.andThen_ok]; rfl
    rw [d1, wpOpsIn_cons]
    have hv1 : (a'.put (some q.n1) (.tuple #[.bool false])).eval (.tmp q.n1) = .tuple #[.bool false] := put_tmp_eq (by rw [S.sz]; exact l1)
    refine wp_value (v' := .bool false) (w' := w') ho1 (wanted_none g2 _) (fun c e => by rw [p2] at e; cases e) ?_ ?_
    · simp only [execOp, p2, hv1]; rfl
    rw [d2]
    have hv2 : ((a'.put (some q.n1) (.tuple #[.bool false])).put (some q.c) (.bool false)).eval (.tmp q.c) = .bool false := put_tmp_eq (by rw [put_size, S.sz]; exact l2)
    refine wpIn_seq (wpIn_cond_false hv2 (wpIn_exit ?_))
    show Exit.inBlock id (After P n m k x r h w) (.exit id) _ _
    simp only [Exit.inBlock, if_true]
    have hall : ∀ e ∈ es, seen.contains e.born = true := fun e he => by
      have h1 : e.born ∈ cur.toList.map (·.born) := by rw [hm2.borns]; exact List.mem_map.2 ⟨e, he, rfl⟩
      obtain ⟨X, h2, h3⟩ := List.mem_map.1 h1
      rw [← h3]
      exact all_seen cur seen hn0 X h2
    have hp := S.post
    rw [List.filter_eq_self.2 hall] at hp
    exact ⟨0, 0, junkK t J, _, s, hk, rfl, ⟨(S.fr.junk_put j1 _).junk_put j2 _, put_size.trans (put_size.trans S.sz), hs.le, hp.rel, by rw [put_defers, put_defers]; exact S.marks, Nat.le_trans hs.low hp.size⟩, hp⟩
  · obtain ⟨hEc, hEs⟩ := mem_left hE
    obtain ⟨e, he, eb, ek, ev⟩ := hm2.mem2 E hEc
    refine wp_value (v' := .tuple #[.bool true, E.key, E.val]) (w' := setBlock w1 pit.blk (.mapIter (some pm.blk) clock (seen.push E.born) clock)) ho0 (wanted_none g1 _) (fun c e => by rw [p1] at e; cases e) ?_ ?_
    · simp only [execOp, p1, hev, hrun, Sem.run_bind, Result.andThen_ok]; rfl
    rw [d1, wpOpsIn_cons]
    generalize hw2 : setBlock w1 pit.blk (.mapIter (some pm.blk) clock (seen.push E.born) clock) = w2
    have hw1h : w1.heap = w'.heap ∧ w1.os = w'.os ∧ w1.tape = w'.tape ∧ w1.output = w'.output := by rcases hw1 with rfl | rfl <;> exact ⟨rfl, rfl, rfl, rfl⟩
    have hfar : ∀ c, c ≠ pit.blk → w2.heap[c]? = w'.heap[c]? := fun c hc => by
      rw [← hw2, ← hw1h.1]; simp [setBlock, Array.getElem?_setIfInBounds_ne (Ne.symm hc)]
    have hz2 : w2.heap.size = w'.heap.size := by rw [← hw2, ← hw1h.1]; simp [setBlock]
    have hit2 : w2.heap[pit.blk]? = some (.mapIter (some pm.blk) clock (seen.push E.born) clock) := by
      rw [← hw2]; simp [setBlock, hw1h.1, hlen]
    have hpmne : pm.blk ≠ pit.blk := fun e2 => by rw [e2, hm4] at hm1; cases hm1
    have hmp2 : w2.heap[pm.blk]? = some (.map cur clock) := (hfar _ hpmne).trans S.mp
    obtain ⟨oi, hoi, hoik⟩ := H.itk
    have hpost2 : Post P r h w s (putAll res (es.filter fun e => seen.contains e.born) (h.put itid none)) w2 :=
      Post.far2 S.post hoi H.it rfl (H.off S.post) hfar hz2 (by rw [← hw2]; exact hw1h.2.1) (by rw [← hw2]; exact hw1h.2.2.1) (by rw [← hw2]; exact hw1h.2.2.2)
    have hmk2 : Marks m w2 a'.defers := S.marks.keep fun b d hb => hfar b fun e2 => by rw [e2, S.itr] at hb; cases hb
    have hv1 : (a'.put (some q.n1) (.tuple #[.bool true, E.key, E.val])).eval (.tmp q.n1) = .tuple #[.bool true, E.key, E.val] := put_tmp_eq (by rw [S.sz]; exact l1)
    refine wp_value (v' := .bool true) (w' := w2) ho1 (wanted_none g2 _) (fun c e => by rw [p2] at e; cases e) ?_ ?_
    · simp only [execOp, p2, hv1]; rfl
    rw [d2]
    have hv2 : ((a'.put (some q.n1) (.tuple #[.bool true, E.key, E.val])).put (some q.c) (.bool true)).eval (.tmp q.c) = .bool true := put_tmp_eq (by rw [put_size, S.sz]; exact l2)
    have hv3 : ((a'.put (some q.n1) (.tuple #[.bool true, E.key, E.val])).put (some q.c) (.bool true)).eval (.tmp q.it) = .pointer (some ⟨pit.blk, 0, none⟩) := by
      rw [put_tmp_ne i2, put_tmp_ne i1, hev]
    refine wpIn_seq (wpIn_cond_true hv2 (wpIn_skip ?_))
    refine wpIn_block (wpIn_seq (wpIn_region ?_))
    rw [hsz21, List.range_eq_range', List.range'_succ, wpOpsIn_cons]
    have hent := run_entry_at (P := P) w2 pit.blk pm.blk clock seen cur clock E hit2 hmp2 hEc hnd
    refine wp_value (v' := .tuple #[E.key, E.val]) (w' := w2) hoe (wanted_none g3 _) (fun c e => by rw [p3] at e; cases e) ?_ ?_
    · simp only [execOp, p3, hv3, hent, Sem.run_bind, Result.andThen_ok]; rfl
    rw [d3]
    obtain ⟨o1, p, ho1', ho1k, hwalk, hres⟩ := (H.good e he).walk
    have hse : ∃ pl, s e.val.b = some pl := by
      obtain ⟨pl, _, _, q1, -⟩ := ev.inv4 (H.good e he).tag (H.good e he).one
      exact ⟨pl, hpost2.ext _ _ q1⟩
    obtain ⟨ple, hple⟩ := hse
    have hD : seen.contains e.born = false := by rw [← eb]; exact hEs
    have hsub : ∀ i o, (AH.put (mapsK h t ⟨.nil, h.next⟩ sh) e.val.b (some o1)).get i = some o → (putAll res (es.filter fun e => seen.contains e.born) (h.put itid none)).get i = some o := fun i o hi => by
      have hbne : ∀ f ∈ es, seen.contains f.born = true → f.val.b ≠ e.val.b := fun f hf hDf e2 => by
        have : f = e := Classical.byContradiction fun hne => (pairwise_ne (R := fun e f => f.val.b ≠ e.val.b ∧ f.born ≠ e.born) (fun x y hh => ⟨fun e => hh.1 e.symm, fun e => hh.2 e.symm⟩) H.apart f hf e he hne).1 e2.symm
        rw [this, hD] at hDf; cases hDf
      rw [AH.get_put] at hi
      split at hi
      · rename_i e2
        cases hi
        have : e.val.b ≠ itid := fun e3 => by rw [e3, hoi] at ho1'; cases ho1'; omega
        rw [e2.1, (H.get (fun e => seen.contains e.born) e.val.b).2.1 hbne this]
        exact ho1'
      · obtain ⟨q1, q2, -⟩ := mapsK_get _ _ _ hi
        have hne : ∀ f ∈ es, f.val.b ≠ i := fun f hf e2 => by
          obtain ⟨of, hof, hofk⟩ := H.own hf
          rw [e2, q1] at hof; cases hof; omega
        have hit : i ≠ itid := fun e2 => by
          rw [e2, hoi] at q1; cases q1; omega
        rw [(H.get (fun e => seen.contains e.born) i).2.1 (fun f hf _ => hne f hf) hit]
        exact q1
    have hrel : Rel P s (AH.put (mapsK h t ⟨.nil, h.next⟩ sh) e.val.b (some o1)) w2 := hpost2.rel.sub hsub (by rw [putAll_next, AH.next_put, AH.next_put, mapsK_next]; exact Nat.le_refl _)
    have hle : r.le s := hpost2.ext
    have hfr := any_frame (n := n) (e1 := q.e1) (c := q.c) (n1 := q.n1) hs.le S.fr S.sz (VR.tup #[.bool true, E.key, E.val] (.cons (.bool true) (.cons (ek.mono hle) (.cons (ev.mono hle) .nil)))) (VR.tup #[E.key, E.val] (.cons (ek.mono hle) (.cons (ev.mono hle) .nil))) true
    have hst : St P n m s (anyT q J n t e) (AH.put (mapsK h t ⟨.nil, h.next⟩ sh) e.val.b (some o1)) (((a'.put (some q.n1) (.tuple #[.bool true, E.key, E.val])).put (some q.c) (.bool true)).put (some q.e1) (.tuple #[E.key, E.val])) w2 :=
      ⟨hfr, put_size.trans (put_size.trans (put_size.trans S.sz)), hs.le, hrel, by rw [put_defers, put_defers, put_defers]; exact hmk2, Nat.le_trans hs.low hpost2.size⟩
    refine any_body hc hrest hro h21 hwalk hst fun ex a3 w3 ha => ?_
    have hD' : ∀ f ∈ es, (seen.push E.born).contains f.born = (seen.contains f.born || Nat.beq f.born e.born) := fun f hf => by
      rw [eb]
      simp only [Array.contains_push]
      congr 1
      cases hb : Nat.beq f.born e.born with
      | true => simpa using beq_of hb
      | false => simpa using fun e2 => by rw [e2, Nat.beq_refl] at hb; cases hb
    obtain ⟨hex, s3, k1, k2, k3, k4, k5⟩ := H.after (D := fun e => seen.contains e.born) (D' := fun e => (seen.push E.born).contains e.born) he hD ho1' hres hpost2 (by rw [hple]; rfl) ha hD'
    have hb1 : w3.heap[pit.blk]? = w2.heap[pit.blk]? := k5 _ (by omega) (H.off3 hpost2 he)
    have hb2 : w3.heap[pm.blk]? = w2.heap[pm.blk]? := k5 _ (Array.getElem?_eq_some_iff.1 hmp2).1 (H.off2 hpost2 he)
    have hI' : I a3 w3 := ⟨s3, seen.push E.born, k1, k2, k3, hb1.trans hit2, hb2.trans hmp2, k4⟩
    have hM' : anyM pit.blk cur w3 = (leftOf cur (seen.push E.born)).size := by simp [anyM, hb1.trans hit2]
    have hfin : I a3 w3 ∧ anyM pit.blk cur w3 < anyM pit.blk cur w' := ⟨hI', by rw [hM', hM]; exact left_shrinks cur seen E hE⟩
    rcases hex with rfl | rfl
    · exact hfin
    · show Exit.inBlock id2 _ (.exit q.id2) _ _
      simp only [Exit.inBlock, hid2, if_true]
      exact hfin
end
end Go.Proofs.YtlclpcobblojnaaGreatDoor
