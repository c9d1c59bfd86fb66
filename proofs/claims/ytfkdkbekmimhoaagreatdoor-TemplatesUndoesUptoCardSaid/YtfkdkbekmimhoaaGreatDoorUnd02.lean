/- TemplatesUndoes: an edit, and then the edit that undoes it, gives the tree. Part 2 of 14. -/
import Derived.Test.YtfkdkbekmimhoaaGreatDoorUnd01
import Derived.Laws.Cells
import Derived.Laws.IdiomCopy
import Derived.Orders
import Derived.Laws.Strings
import Derived.Laws.Tables
import Derived.Deep.AppendSrc
/- The machine for closed runs: its memory and the model's. -/
namespace Go.Proofs.YtfkdkbekmimhoaaGreatDoor

def FrR (r : Ren) (t : Fr) (tmps : Array Value) : Prop := ∀ i, i < 512 → VR r (t.get i) (tmps.getD i undef)
theorem FrR.mono {r s : Ren} (h : r.le s) {t : Fr} {tmps : Array Value} (hf : FrR r t tmps) : FrR s t tmps := fun i hi => (hf i hi).mono h

/-- Entries of maps. -/
inductive MEs (r : Ren) : List ME → List MapEntry → Prop
  | nil : MEs r [] []
  | cons {e : ME} {E : MapEntry} {l : List ME} {L : List MapEntry} (hk : VR r e.key E.key) (hv : VR r e.val E.val) (hb : E.born = e.born) (t : MEs r l L) : MEs r (e :: l) (E :: L)
theorem MEs.mono {r s : Ren} (h : r.le s) : ∀ {l : List ME} {L : List MapEntry}, MEs r l L → MEs s l L
  | _, _, .nil => .nil
  | _, _, .cons hk hv hb t => .cons (hk.mono h) (hv.mono h) hb (MEs.mono h t)
theorem MEs.length {r : Ren} : ∀ {l : List ME} {L : List MapEntry}, MEs r l L → l.length = L.length
  | _, _, .nil => rfl
  | _, _, .cons _ _ _ t => by simp [MEs.length t]
theorem MEs.append {r : Ren} : ∀ {l m : List ME} {L M : List MapEntry}, MEs r l L → MEs r m M → MEs r (l ++ m) (L ++ M)
  | _, _, _, _, .nil, h => h
  | _, _, _, _, .cons a b c t, h => .cons a b c (MEs.append t h)

def jumpOf (x o : Nat) : Option Code := if x = 0 then none else if x = 1 then some (.exit o) else some .ret
def stateOf : Nat → LoopState
  | 0 => .ready | 1 => .busy | 2 => .done | _ => .exhausted

/-- An object of the machine's, in its block. -/
inductive ObR (P : Program) (r : Ren) (p : Pl) (w : World) : OB → Prop
  | arr {cs : List AV} {e : Nat} {cur : Array Value} {fz : Nat × Nat} (h : w.heap[p.blk]? = some (.cells cur e fz)) (hf : fz = (0, 0) ∨ cur.size ≤ fz.1) (hz : cur.size = p.sz) (hb : p.base + cs.length ≤ p.sz) (hk : szA P e = some p.k)
      (hc : ∀ (j : Nat) (a : AV), cs[j]? = some a → ∃ v, cur[p.base + j]? = some v ∧ VR r a v) : ObR P r p w (.arr cs e)
  | map {es : List ME} {c : Nat} {cur : Array MapEntry} (h : w.heap[p.blk]? = some (.map cur c)) (he : MEs r es cur.toList) (hb : ∀ e ∈ es, e.born < c) : ObR P r p w (.map es c)
  | lit {es : List ME} {c : Nat} {cur : Array MapEntry} (h : w.heap[p.blk]? = some (.map cur c)) (h1 : ∀ E ∈ cur.toList, ∃ e ∈ es, VR r e.key E.key ∧ VR r e.val E.val) (h2 : ∀ e ∈ es, ∃ E ∈ cur.toList, VR r e.key E.key ∧ VR r e.val E.val) (hd : es.Pairwise fun e f => e.key ≠ f.key) (ht : ∀ e ∈ es, ∀ f ∈ es, e.key.tag = f.key.tag ∧ e.key.a = f.key.a) : ObR P r p w (.lit es)
  | iter {m since : Nat} {seen : List Nat} {pm : Pl} (h : w.heap[p.blk]? = some (.mapIter (some pm.blk) since seen.reverse.toArray since)) (hm : r m = some pm) (hb : p.base = 0) : ObR P r p w (.iter m since seen)
  | loop {n x o st : Nat} {t : Fr} {ps : List Tmp} {asg body : Code} {L : Loop} (h : w.heap[p.blk]? = some (.loop L)) (ht : FrR r t L.tmps) (hp : L.params.toList = ps) (ha : L.assign = asg) (hb : L.body = body) (hs : L.state = stateOf st) (hj : L.pending = jumpOf x o) (hn : L.tmps.size = n ∧ n ≤ 512)
      : ObR P r p w (.loop x o st (n, t, ps, asg, body))

theorem ObR.mono {P : Program} {r s : Ren} (h : r.le s) {p : Pl} {w : World} {o : OB} (ho : ObR P r p w o) : ObR P s p w o := by
  cases ho with
  | arr h1 h2 h3 h4 h5 h6 => exact .arr h1 h2 h3 h4 h5 fun j a ha => let ⟨v, hv, hr⟩ := h6 j a ha; ⟨v, hv, hr.mono h⟩
  | map h1 h2 h3 => exact .map h1 (h2.mono h) h3
  | lit h1 h2 h3 h4 h5 => exact .lit h1 (fun E hE => let ⟨e, q1, q2, q3⟩ := h2 E hE; ⟨e, q1, q2.mono h, q3.mono h⟩) (fun e he => let ⟨E, q1, q2, q3⟩ := h3 e he; ⟨E, q1, q2.mono h, q3.mono h⟩) h4 h5
  | iter h1 h2 h3 => exact .iter h1 (h _ _ h2) h3
  | loop h1 h2 h3 h4 h5 h6 h7 h8 => exact .loop h1 (h2.mono h) h3 h4 h5 h6 h7 h8
theorem ObR.same {P : Program} {r : Ren} {p : Pl} {w w' : World} {o : OB} (hw : w'.heap[p.blk]? = w.heap[p.blk]?) (ho : ObR P r p w o) : ObR P r p w' o := by
  cases ho with
  | arr h1 h2 h3 h4 h5 h6 => exact .arr (hw.trans h1) h2 h3 h4 h5 h6
  | map h1 h2 h3 => exact .map (hw.trans h1) h2 h3
  | lit h1 h2 h3 h4 h5 => exact .lit (hw.trans h1) h2 h3 h4 h5
  | iter h1 h2 h3 => exact .iter (hw.trans h1) h2 h3
  | loop h1 h2 h3 h4 h5 h6 h7 h8 => exact .loop (hw.trans h1) h2 h3 h4 h5 h6 h7 h8

structure Rel (P : Program) (r : Ren) (h : AH) (w : World) : Prop where
  small : ∀ i o, h.get i = some o → i + 1 < 16777216
  live : ∀ i o p, h.get i = some o → r i = some p → ObR P r p w o
  inj : ∀ i j o o' p q, h.get i = some o → h.get j = some o' → r i = some p → r j = some q → p.blk = q.blk → i = j
  dom : ∀ i p, r i = some p → i < h.next ∧ p.blk < w.heap.size
  top : ∀ i o, h.get i = some o → i < h.next

/-- What a step leaves: blocks that no live object lies in stay as they are; an object lies in a new block, or where a live one lay. -/
structure Post (P : Program) (r : Ren) (h : AH) (w : World) (s : Ren) (h' : AH) (w' : World) : Prop where
  rel : Rel P s h' w'
  ext : r.le s
  new : ∀ i p, s i = some p → r i = some p ∨ (h.next ≤ i ∧ i < h'.next)
  nxt : h.next ≤ h'.next
  size : w.heap.size ≤ w'.heap.size
  frame : ∀ b, b < w.heap.size → (∀ i o p, h.get i = some o → r i = some p → p.blk ≠ b) → w'.heap[b]? = w.heap[b]?
  own : ∀ i o p, h'.get i = some o → s i = some p → w.heap.size ≤ p.blk ∨ ∃ j o' q, h.get j = some o' ∧ r j = some q ∧ q.blk = p.blk
  keep : ∀ i, i < h.next → r i = none → h'.get i = h.get i
  os : w'.os = w.os
  tape : w'.tape = w.tape
  output : w'.output = w.output
  froz : Froz h h'

theorem Post.refl {P : Program} {r : Ren} {h : AH} {w : World} (hr : Rel P r h w) : Post P r h w r h w :=
  ⟨hr, r.le_refl, fun _ _ h => .inl h, Nat.le_refl _, Nat.le_refl _, fun _ _ _ => rfl, fun i o p h1 h2 => .inr ⟨i, o, p, h1, h2, rfl⟩, fun _ _ _ => rfl, rfl, rfl, rfl, Froz.refl _⟩
theorem Post.trans {P : Program} {r s t : Ren} {h h' h'' : AH} {w w' w'' : World} (a : Post P r h w s h' w') (b : Post P s h' w' t h'' w'') : Post P r h w t h'' w'' := by
  refine ⟨b.rel, Ren.le_trans a.ext b.ext, fun i p hp => ?_, Nat.le_trans a.nxt b.nxt, Nat.le_trans a.size b.size, fun k hk hno => ?_, fun i o p h1 h2 => ?_, fun i hi hn => ?_, b.os.trans a.os, b.tape.trans a.tape, b.output.trans a.output, a.froz.trans b.froz⟩
  · rcases b.new i p hp with h1 | h1
    · rcases a.new i p h1 with h2 | h2
      · exact .inl h2
      · exact .inr ⟨h2.1, Nat.lt_of_lt_of_le h2.2 b.nxt⟩
    · exact .inr ⟨Nat.le_trans a.nxt h1.1, h1.2⟩
  · rw [b.frame k (Nat.lt_of_lt_of_le hk a.size) fun i o p h1 h2 e => ?_, a.frame k hk hno]
    rcases a.own i o p h1 h2 with h3 | ⟨j, o', q, h3, h4, h5⟩
    · omega
    · exact hno j o' q h3 h4 (h5.trans e)
  · rcases b.own i o p h1 h2 with h3 | ⟨j, o', q, h3, h4, h5⟩
    · exact .inl (Nat.le_trans a.size h3)
    · rcases a.own j o' q h3 h4 with h6 | ⟨k, o2, q2, h6, h7, h8⟩
      · exact .inl (h5 ▸ h6)
      · exact .inr ⟨k, o2, q2, h6, h7, h8.trans h5⟩
  · refine (b.keep i (Nat.lt_of_lt_of_le hi a.nxt) ?_).trans (a.keep i hi hn)
    cases hs : s i with
    | none => rfl
    | some p => rcases a.new i p hs with h1 | h1
                · rw [hn] at h1; cases h1
                · omega

section
variable {P : Program} {r : Ren} {h : AH} {w : World}

theorem Rel.fresh (hr : Rel P r h w) : r h.next = none := by
  cases hp : r h.next with
  | none => rfl
  | some p => exact absurd (hr.dom _ _ hp).1 (Nat.lt_irrefl _)

theorem Rel.top_new (hr : Rel P r h w) (ob : OB) {i : Nat} {o' : OB} (hi : (h.new ob).get i = some o') : i < (h.new ob).next := by
  rw [AH.get_new] at hi
  split at hi
  · rename_i e; rw [e.1]; exact Nat.lt_succ_self _
  · exact Nat.lt_succ_of_lt (hr.top _ _ hi)
theorem heap_push_old (w : World) (O : Obj) {b : Nat} (hb : b < w.heap.size) : (w.alloc O).heap[b]? = w.heap[b]? := by
  show (w.heap.push O)[b]? = _
  rw [Array.getElem?_push, if_neg (Nat.ne_of_lt hb)]
theorem heap_push_new (w : World) (O : Obj) : (w.alloc O).heap[w.heap.size]? = some O := by
  show (w.heap.push O)[w.heap.size]? = _
  simp

/-- A new object. -/
theorem Post.alloc (hr : Rel P r h w) {o : OB} {O : Obj} {p : Pl} (hp : p.blk = w.heap.size) (ho : ObR P (r.set h.next p) p (w.alloc O) o) :
    Post P r h w (r.set h.next p) (h.new o) (w.alloc O) := by
  have hle : r.le (r.set h.next p) := r.le_set p hr.fresh
  have hset : ∀ i q, r.set h.next p i = some q → (i = h.next ∧ q = p) ∨ r i = some q := fun i q hq => by
    unfold Ren.set at hq
    by_cases e : i = h.next
    · rw [if_pos e] at hq; cases hq; exact .inl ⟨e, rfl⟩
    · rw [if_neg e] at hq; exact .inr hq
  have hget : ∀ i o', (h.new o).get i = some o' → (i = h.next ∧ o' = o ∧ h.next + 1 < 16777216) ∨ (i ≠ h.next ∧ h.get i = some o') ∨ (i = h.next ∧ h.get i = some o' ∧ ¬ h.next + 1 < 16777216) := fun i o' hi => by
    rw [AH.get_new] at hi
    by_cases e : i = h.next
    · by_cases e2 : h.next + 1 < 16777216
      · rw [if_pos ⟨e, e2⟩] at hi; cases hi; exact .inl ⟨e, rfl, e2⟩
      · rw [if_neg (fun x => e2 x.2)] at hi; exact .inr (.inr ⟨e, hi, e2⟩)
    · rw [if_neg (fun x => e x.1)] at hi; exact .inr (.inl ⟨e, hi⟩)
  have hne : ∀ i o', (h.new o).get i = some o' → i ≠ h.next → h.get i = some o' := fun i o' hi e => by
    rcases hget i o' hi with h1 | h1 | h1
    · exact absurd h1.1 e
    · exact h1.2
    · exact h1.2.1
  have hsm : ∀ i o', (h.new o).get i = some o' → i = h.next → o' = o := fun i o' hi e => by
    rcases hget i o' hi with h1 | h1 | h1
    · exact h1.2.1
    · exact absurd e h1.1
    · have := hr.small _ _ h1.2.1
      exact absurd (e ▸ this) h1.2.2
  refine ⟨⟨fun i o' hi => ?_, fun i o' q hi hq => ?_, fun i j o1 o2 q1 q2 h1 h2 h3 h4 he => ?_, fun i q hq => ?_, fun i o' hi => hr.top_new _ hi⟩, hle, fun i q hq => ?_, by simp, by simp, fun b hb _ => heap_push_old w O hb, fun i o' q hi hq => ?_, fun i hi _ => by rw [AH.get_new, if_neg (fun e => Nat.lt_irrefl _ (e.1 ▸ hi))], rfl, rfl, rfl, AH.froz_new _ _⟩
  · rcases hget i o' hi with h1 | h1 | h1
    · omega
    · exact hr.small _ _ h1.2
    · exact hr.small _ _ h1.2.1
  · rcases hset i q hq with ⟨e, rfl⟩ | h1
    · rw [hsm i o' hi e]; exact ho
    · have e : i ≠ h.next := fun e => by rw [e, hr.fresh] at h1; cases h1
      exact ((hr.live i o' q (hne i o' hi e) h1).mono hle).same (heap_push_old w O (hr.dom _ _ h1).2)
  · rcases hset i q1 h3 with ⟨e, rfl⟩ | h5 <;> rcases hset j q2 h4 with ⟨e', rfl⟩ | h6
    · exact e.trans e'.symm
    · exact absurd (hr.dom _ _ h6).2 (by omega)
    · exact absurd (hr.dom _ _ h5).2 (by omega)
    · have e : i ≠ h.next := fun e => by rw [e, hr.fresh] at h5; cases h5
      have e' : j ≠ h.next := fun e => by rw [e, hr.fresh] at h6; cases h6
      exact hr.inj i j o1 o2 q1 q2 (hne i o1 h1 e) (hne j o2 h2 e') h5 h6 he
  · rcases hset i q hq with ⟨e, rfl⟩ | h1
    · simp [e, hp]
    · have := hr.dom _ _ h1
      simp
      omega
  · rcases hset i q hq with ⟨e, rfl⟩ | h1
    · exact .inr (by simp [e])
    · exact .inl h1
  · rcases hset i q hq with ⟨e, rfl⟩ | h1
    · exact .inl (by omega)
    · have e : i ≠ h.next := fun e => by rw [e, hr.fresh] at h1; cases h1
      exact .inr ⟨i, o', q, hne i o' hi e, h1, rfl⟩

/-- What an allocation leaves whose object lay in the machine's memory ahead of it. -/
structure LPost (P : Program) (r : Ren) (g : AH) (w : World) (i : Nat) (s : Ren) (w' : World) : Prop where
  rel : Rel P s g w'
  ext : r.le s
  new : ∀ j p, s j = some p → r j = some p ∨ (j = i ∧ w.heap.size ≤ p.blk)
  size : w.heap.size ≤ w'.heap.size
  frame : ∀ b, b < w.heap.size → w'.heap[b]? = w.heap[b]?
  os : w'.os = w.os
  tape : w'.tape = w.tape
  output : w'.output = w.output
theorem LPost.alloc {g : AH} {i : Nat} {ob : OB} (hr : Rel P r g w) (hn : r i = none) (hi : i < g.next) (hob : ∀ o', g.get i = some o' → o' = ob) {O : Obj} {p : Pl} (hp : p.blk = w.heap.size) (ho : ObR P (r.set i p) p (w.alloc O) ob) :
    LPost P r g w i (r.set i p) (w.alloc O) := by
  have hle : r.le (r.set i p) := r.le_set p hn
  have hset : ∀ j q, r.set i p j = some q → (j = i ∧ q = p) ∨ (j ≠ i ∧ r j = some q) := fun j q hq => by
    unfold Ren.set at hq
    by_cases e : j = i
    · rw [if_pos e] at hq; cases hq; exact .inl ⟨e, rfl⟩
    · rw [if_neg e] at hq; exact .inr ⟨e, hq⟩
  refine ⟨⟨hr.small, fun j o' q hj hq => ?_, fun j k o1 o2 q1 q2 h1 h2 h3 h4 he => ?_, fun j q hq => ?_, hr.top⟩, hle, fun j q hq => ?_, by simp, fun b hb => heap_push_old w O hb, rfl, rfl, rfl⟩
  · rcases hset j q hq with ⟨e, rfl⟩ | ⟨e, h1⟩
    · rw [hob o' (e ▸ hj)]; exact ho
    · exact ((hr.live j o' q hj h1).mono hle).same (heap_push_old w O (hr.dom _ _ h1).2)
  · rcases hset j q1 h3 with ⟨e, rfl⟩ | ⟨e, h5⟩ <;> rcases hset k q2 h4 with ⟨e', rfl⟩ | ⟨e', h6⟩
    · exact e.trans e'.symm
    · exact absurd (hr.dom _ _ h6).2 (by omega)
    · exact absurd (hr.dom _ _ h5).2 (by omega)
    · exact hr.inj j k o1 o2 q1 q2 h1 h2 h5 h6 he
  · rcases hset j q hq with ⟨e, rfl⟩ | ⟨e, h1⟩
    · simp [e, hp, hi]
    · have := hr.dom _ _ h1
      simp
      omega
  · rcases hset j q hq with ⟨e, rfl⟩ | ⟨e, h1⟩
    · exact .inr ⟨e, by omega⟩
    · exact .inl h1
theorem Rel.new (hr : Rel P r h w) (ob : OB) : Rel P r (h.new ob) w := by
  have hne : ∀ i o' q, (h.new ob).get i = some o' → r i = some q → h.get i = some o' := fun i o' q hi hq => by
    rw [AH.get_new] at hi
    split at hi
    · rename_i e
      rw [e.1, hr.fresh] at hq; cases hq
    · exact hi
  refine ⟨fun i o' hi => ?_, fun i o' q hi hq => hr.live i o' q (hne i o' q hi hq) hq, fun i j o o' p q h1 h2 h3 h4 he => hr.inj i j o o' p q (hne _ _ _ h1 h3) (hne _ _ _ h2 h4) h3 h4 he, fun i p hp => ?_, fun i o' hi => hr.top_new _ hi⟩
  · rw [AH.get_new] at hi
    split at hi
    · rename_i e; omega
    · exact hr.small _ _ hi
  · have := hr.dom _ _ hp
    simp
    omega
theorem LPost.post {ob : OB} {s : Ren} {w' : World} (hr : Rel P r h w) (hp : LPost P r (h.new ob) w h.next s w') : Post P r h w s (h.new ob) w' := by
  refine ⟨hp.rel, hp.ext, fun i q hq => ?_, by simp, hp.size, fun b hb _ => hp.frame b hb, fun i o' q hi hq => ?_, fun i hi _ => by rw [AH.get_new, if_neg (fun e => Nat.lt_irrefl _ (e.1 ▸ hi))], hp.os, hp.tape, hp.output, AH.froz_new _ _⟩
  · rcases hp.new i q hq with h1 | h1
    · exact .inl h1
    · exact .inr (by simp [h1.1])
  · rcases hp.new i q hq with h1 | h1
    · rw [AH.get_new] at hi
      split at hi
      · rename_i e
        rw [e.1, hr.fresh] at h1; cases h1
      · exact .inr ⟨i, o', q, hi, h1, rfl⟩
    · exact .inl h1.2

/-- A live object is written. -/
theorem Post.put (hr : Rel P r h w) {i : Nat} {o o' : OB} {p : Pl} {w' : World} (hi : h.get i = some o) (hp : r i = some p) (hz : w'.heap.size = w.heap.size) (hb : ∀ b, b ≠ p.blk → w'.heap[b]? = w.heap[b]?) (ho : ObR P r p w' o')
    (h1 : w'.os = w.os) (h2 : w'.tape = w.tape) (h3 : w'.output = w.output) : Post P r h w r (h.put i (some o')) w' := by
  have hsm := hr.small _ _ hi
  have hget : ∀ j x, (h.put i (some o')).get j = some x → (j = i ∧ x = o') ∨ (j ≠ i ∧ h.get j = some x) := fun j x hj => by
    rw [AH.get_put] at hj
    by_cases e : j = i
    · rw [if_pos ⟨e, hsm⟩] at hj; cases hj; exact .inl ⟨e, rfl⟩
    · rw [if_neg (fun y => e y.1)] at hj; exact .inr ⟨e, hj⟩
  refine ⟨⟨fun j x hj => ?_, fun j x q hj hq => ?_, fun j k x y q1 q2 hj hk hq1 hq2 he => ?_, fun j q hq => ?_, fun j x hj => (hget j x hj).elim (fun e => (hr.top _ _ (e.1.symm ▸ hi) : j < h.next)) fun e => hr.top _ _ e.2⟩, r.le_refl, fun _ _ h => .inl h, Nat.le_refl _, by omega, fun b hb' hno => hb b fun e => hno i o p hi hp e.symm, fun j x q hj hq => ?_, fun j _ hn => by rw [AH.get_put, if_neg (fun e => by rw [e.1, hp] at hn; cases hn)], h1, h2, h3, AH.froz_put _ _ _⟩
  · rcases hget j x hj with ⟨e, -⟩ | h4
    · exact e ▸ hsm
    · exact hr.small _ _ h4.2
  · rcases hget j x hj with ⟨e, e2⟩ | ⟨e, h4⟩
    · subst e e2
      rw [hp] at hq
      cases hq
      exact ho
    · exact (hr.live j x q h4 hq).same (hb _ fun e2 => e (hr.inj _ _ _ _ _ _ h4 hi hq hp e2))
  · have hj' : ∃ x', h.get j = some x' := (hget j x hj).elim (fun e => ⟨o, e.1 ▸ hi⟩) fun e => ⟨x, e.2⟩
    have hk' : ∃ x', h.get k = some x' := (hget k y hk).elim (fun e => ⟨o, e.1 ▸ hi⟩) fun e => ⟨y, e.2⟩
    obtain ⟨x', hx'⟩ := hj'
    obtain ⟨y', hy'⟩ := hk'
    exact hr.inj j k x' y' q1 q2 hx' hy' hq1 hq2 he
  · have := hr.dom _ _ hq
    simp only [AH.next_put]
    omega
  · rcases hget j x hj with ⟨e, -⟩ | h4
    · subst e
      exact .inr ⟨j, o, q, hi, hq, rfl⟩
    · exact .inr ⟨j, x, q, h4.2, hq, rfl⟩

/-- A live object is given up; a new one may lie where it lay. -/
theorem Post.move (hr : Rel P r h w) {i : Nat} {o o' : OB} {p q : Pl} {w' : World} (hi : h.get i = some o) (hp : r i = some p) (hq : q.blk = p.blk ∨ q.blk = w.heap.size) (hlt : q.blk < w'.heap.size) (hz : w.heap.size ≤ w'.heap.size) (hb : ∀ b, b < w.heap.size → b ≠ p.blk → w'.heap[b]? = w.heap[b]?)
    (ho : ObR P (r.set h.next q) q w' o') (h1 : w'.os = w.os) (h2 : w'.tape = w.tape) (h3 : w'.output = w.output) : Post P r h w (r.set h.next q) ((h.put i none).new o') w' := by
  have hle : r.le (r.set h.next q) := r.le_set q hr.fresh
  have hni : i ≠ h.next := fun e => by rw [e, hr.fresh] at hp; cases hp
  have hsm := hr.small _ _ hi
  have hset : ∀ j x, r.set h.next q j = some x → (j = h.next ∧ x = q) ∨ (j ≠ h.next ∧ r j = some x) := fun j x hx => by
    unfold Ren.set at hx
    by_cases e : j = h.next
    · rw [if_pos e] at hx; cases hx; exact .inl ⟨e, rfl⟩
    · rw [if_neg e] at hx; exact .inr ⟨e, hx⟩
  have hget : ∀ j x, ((h.put i none).new o').get j = some x → (j = h.next ∧ x = o') ∨ (j ≠ i ∧ j ≠ h.next ∧ h.get j = some x) := fun j x hj => by
    rw [AH.get_new, AH.next_put, AH.get_put] at hj
    by_cases e : j = h.next
    · by_cases e2 : h.next + 1 < 16777216
      · rw [if_pos ⟨e, e2⟩] at hj; cases hj; exact .inl ⟨e, rfl⟩
      · rw [if_neg (fun y => e2 y.2), if_neg (fun y => hni (y.1.symm.trans e))] at hj
        exact absurd (e ▸ hr.small _ _ hj) e2
    · rw [if_neg (fun y => e y.1)] at hj
      by_cases e3 : j = i
      · rw [if_pos ⟨e3, hsm⟩] at hj; cases hj
      · rw [if_neg (fun y => e3 y.1)] at hj; exact .inr ⟨e3, e, hj⟩
  have hold : ∀ j x y, j ≠ i → h.get j = some x → r j = some y → y.blk ≠ p.blk ∧ y.blk < w.heap.size := fun j x y e hj hy => ⟨fun e2 => e (hr.inj _ _ _ _ _ _ hj hi hy hp e2), (hr.dom _ _ hy).2⟩
  refine ⟨⟨fun j x hj => ?_, fun j x y hj hy => ?_, fun j k x y q1 q2 hj hk hq1 hq2 he => ?_, fun j y hy => ?_, fun j x hj => (hget j x hj).elim (fun e => e.1 ▸ Nat.lt_succ_self _) fun e => Nat.lt_succ_of_lt (hr.top _ _ e.2.2)⟩, hle, fun j y hy => ?_, by simp, hz, fun b hb' hno => hb b hb' fun e => hno i o p hi hp e.symm, fun j x y hj hy => ?_, fun j hj hn => by rw [AH.get_new, AH.next_put, if_neg (fun e => Nat.lt_irrefl _ (e.1 ▸ hj)), AH.get_put, if_neg (fun e => by rw [e.1, hp] at hn; cases hn)], h1, h2, h3, (AH.froz_put _ _ _).trans (AH.froz_new _ _)⟩
  · rcases hget j x hj with ⟨e, -⟩ | h4
    · subst e
      rw [AH.get_new, AH.next_put, AH.get_put] at hj
      by_cases e2 : h.next + 1 < 16777216
      · exact e2
      · rw [if_neg (fun y => e2 y.2), if_neg (fun y => hni y.1.symm)] at hj
        exact hr.small _ _ hj
    · exact hr.small _ _ h4.2.2
  · rcases hget j x hj with ⟨e, e2⟩ | ⟨e, e2, h4⟩ <;> rcases hset j y hy with ⟨e3, e4⟩ | ⟨e3, h5⟩
    · rw [e2, e4]; exact ho
    · exact absurd e e3
    · exact absurd e3 e2
    · have := hold j x y e h4 h5
      exact ((hr.live j x y h4 h5).mono hle).same (hb _ this.2 this.1)
  · rcases hget j x hj with ⟨e, -⟩ | ⟨e, e2, h4⟩ <;> rcases hset j q1 hq1 with ⟨e3, e4⟩ | ⟨e3, h5⟩ <;> rcases hget k y hk with ⟨f, -⟩ | ⟨f, f2, g4⟩ <;> rcases hset k q2 hq2 with ⟨f3, f4⟩ | ⟨f3, g5⟩ <;> first | exact absurd e e3 | exact absurd e3 e2 | exact absurd f f3 | exact absurd f3 f2 | skip
    · exact e.trans f.symm
    · have := hold k y q2 f g4 g5
      rw [e4] at he
      rcases hq with hq | hq
      · exact absurd (he.symm.trans hq) this.1
      · omega
    · have := hold j x q1 e h4 h5
      rw [f4] at he
      rcases hq with hq | hq
      · exact absurd (he.trans hq) this.1
      · omega
    · exact hr.inj j k x y q1 q2 h4 g4 h5 g5 he
  · rcases hset j y hy with ⟨e, rfl⟩ | ⟨-, h5⟩
    · exact ⟨by simp [e], hlt⟩
    · have := hr.dom _ _ h5
      simp
      omega
  · rcases hset j y hy with ⟨e, rfl⟩ | ⟨-, h5⟩
    · exact .inr (by simp [e])
    · exact .inl h5
  · rcases hget j x hj with ⟨e, -⟩ | ⟨e, e2, h4⟩ <;> rcases hset j y hy with ⟨e3, rfl⟩ | ⟨e3, h5⟩
    · rcases hq with hq | hq
      · exact .inr ⟨i, o, p, hi, hp, hq.symm⟩
      · exact .inl (by omega)
    · exact absurd e e3
    · exact absurd e3 e2
    · exact .inr ⟨j, x, y, h4, h5, rfl⟩

theorem Post.drew (hr : Rel P r h w) : Post P r h w r h w.drew :=
  ⟨⟨hr.small, fun i o p h1 h2 => ObR.same (w := w) (w' := w.drew) rfl (hr.live i o p h1 h2), hr.inj, hr.dom, hr.top⟩, r.le_refl, fun _ _ h => .inl h, Nat.le_refl _, Nat.le_refl _, fun _ _ _ => rfl, fun i o p h1 h2 => .inr ⟨i, o, p, h1, h2, rfl⟩, fun _ _ _ => rfl, rfl, rfl, rfl, Froz.refl _⟩
end

/-- Less is known of memory. -/
theorem Rel.sub {P : Program} {r : Ren} {h g : AH} {w : World} (hr : Rel P r h w) (hs : ∀ i o, g.get i = some o → h.get i = some o) (hn : h.next ≤ g.next) : Rel P r g w :=
  ⟨fun i o hi => hr.small i o (hs i o hi), fun i o p hi hp => hr.live i o p (hs i o hi) hp, fun i j o o' p q h1 h2 h3 h4 he => hr.inj i j o o' p q (hs _ _ h1) (hs _ _ h2) h3 h4 he, fun i p hp => ⟨Nat.lt_of_lt_of_le (hr.dom i p hp).1 hn, (hr.dom i p hp).2⟩, fun i o hi => Nat.lt_of_lt_of_le (hr.top i o (hs i o hi)) hn⟩
theorem get_drop {h : AH} {i j : Nat} {o : OB} (hj : (h.put i none).get j = some o) : h.get j = some o := by
  rw [AH.get_put] at hj
  split at hj
  · cases hj
  · exact hj
theorem Post.drop {P : Program} {r : Ren} {h : AH} {w : World} (hr : Rel P r h w) (i : Nat) {q : Pl} (hi : r i = some q) : Post P r h w r (h.put i none) w :=
  ⟨hr.sub (fun _ _ => get_drop) (Nat.le_refl _), r.le_refl, fun _ _ h => .inl h, Nat.le_refl _, Nat.le_refl _, fun _ _ _ => rfl, fun j o p h1 h2 => .inr ⟨j, o, p, get_drop h1, h2, rfl⟩, fun j _ hn => by rw [AH.get_put, if_neg (fun e => by rw [e.1, hi] at hn; cases hn)], rfl, rfl, rfl, AH.froz_put _ _ _⟩
end Go.Proofs.YtfkdkbekmimhoaaGreatDoor
/- The machine for closed runs: its operations do what the model's do. -/
namespace Go.Proofs.YtfkdkbekmimhoaaGreatDoor

section
variable {P : Program} {w : World}
theorem run_underlying {t : TypeId} {d : TypeDesc} (h : P.underlying t = some d) : (underlying t).run P w = .ok d w := by simp [underlying, h]
theorem run_info {t : TypeId} {i : TypeInfo} (h : P.info? t = some i) : (typeInfo t).run P w = .ok i w := by simp [typeInfo, h]
theorem szA_some {t : TypeId} {n : Nat} (h : szA P t = some n) : ∃ i, P.info? t = some i ∧ i.size = n := by
  unfold szA at h
  rw [infK_eq] at h
  cases hi : P.info? t with
  | none => rw [hi] at h; cases h
  | some i => rw [hi] at h; cases h; exact ⟨i, rfl, rfl⟩
theorem run_size {t : TypeId} {n : Nat} (h : szA P t = some n) : (sizeOf t).run P w = .ok n w := by
  obtain ⟨i, h1, rfl⟩ := szA_some h
  simp [sizeOf, typeInfo, h1]
theorem run_agg {t : TypeId} {b : Bool} (h : aggA P t = some b) : (isAgg t).run P w = .ok b w := by
  unfold aggA at h
  rw [undK_eq] at h
  simp only [isAgg, Sem.run_bind]
  cases hd : P.underlying t with
  | none => rw [hd] at h; cases h
  | some d =>
    rw [run_underlying hd, Result.andThen_ok]
    rw [hd] at h
    cases d <;> cases h <;> rfl
theorem run_zero {t : TypeId} {z : List AV} (h : zeroA P t = some z) : ∃ v, (zeroValue t).run P w = .ok v w ∧ z = v.cells.toList.map ofV1 ∧ ∃ i, P.info? t = some i ∧ i.zero = some v := by
  unfold zeroA at h
  rw [infK_eq] at h
  cases hi : P.info? t with
  | none => rw [hi] at h; cases h
  | some i =>
    rw [hi] at h
    simp only at h
    cases hz : i.zero with
    | none => rw [hz] at h; cases h
    | some v =>
      rw [hz] at h
      cases h
      exact ⟨v, by simp [zeroValue, typeInfo, hi, hz], rfl, i, rfl, hz⟩
end

/-- The operands are what the machine has for them. -/
def EvOk (r : Ren) (t : Fr) (a : Act) (xs : List Operand) : Prop := ∀ x ∈ xs, VR r ((evB x).f t) (a.eval x)
theorem evB_const (v : Value) (t : Fr) : (evB (.const v)).f t = ofV v := by show (boxV (ofV v)).f t = _; rw [boxV_eq]
theorem evB_ok {r : Ren} {t : Fr} {a : Act} (h : FrR r t a.tmps) (x : Operand) : VR r ((evB x).f t) (a.eval x) := by
  cases x with
  | tmp i =>
    unfold evB
    simp only
    cases hb : Nat.blt i 512 with
    | true =>
      have := Nat.le_of_ble_eq_true hb
      simp only [getF_eq]
      exact h i (by omega)
    | false => exact .junk _
  | const v =>
    have e : (evB (.const v)).f t = ofV v := by show (boxV (ofV v)).f t = _; rw [boxV_eq]
    rw [e]
    exact VR_ofV r v
  | func f => exact .fn f #[] #[] .nil
  | global g => exact .junk _
theorem EvOk.of {r : Ren} {t : Fr} {a : Act} (h : FrR r t a.tmps) (xs : List Operand) : EvOk r t a xs := fun x _ => evB_ok h x
theorem EvOk.mono {r s : Ren} (h : r.le s) {t : Fr} {a : Act} {xs : List Operand} (he : EvOk r t a xs) : EvOk s t a xs := fun x hx => (he x hx).mono h

/-- The operation is carried out: it yields v and leaves h'. -/
def Does (P : Program) (o : Oper) (a : Act) (r : Ren) (h : AH) (w : World) (v : AV) (h' : AH) : Prop :=
  ∃ s w' v', ((execOp a.eval o).run P w = .ok (.value v') w' ∨ ((execOp a.eval o).run P w = .ok .skip w' ∧ v' = undef)) ∧ VR s v v' ∧ Post P r h w s h' w'
def OpOk (P : Program) (o : Oper) (f : OpT) : Prop :=
  ∀ (t : Fr) (h : AH) (k : KV) (x : RV) (r : Ren) (a : Act) (w : World), f t h k = some x → Rel P r h w → EvOk r t a o.op.operands.toList → ∃ v h', k v h' = some x ∧ Does P o a r h w v h'

/-- A value, nothing more: memory may have grown since. -/
def PDoes (P : Program) (o : Oper) (a : Act) (r : Ren) (h : AH) (w : World) (v : AV) (h' : AH) : Prop :=
  h' = h ∧ ∃ v', (execOp a.eval o).run P w = .ok (.value v') w ∧ VR r v v'
def PlOk (P : Program) (o : Oper) (f : OpT) : Prop :=
  ∀ (t : Fr) (h : AH) (k : KV) (x : RV) (r : Ren) (a : Act) (w : World) (N : Nat), f t h k = some x → Rel P r ⟨h.t, N⟩ w → EvOk r t a o.op.operands.toList → ∃ v h', k v h' = some x ∧ PDoes P o a r h w v h'
theorem PDoes.pure {P : Program} {o : Oper} {a : Act} {r : Ren} {h : AH} {w : World} {v : AV} {v' : Value} {N : Nat} (_ : Rel P r ⟨h.t, N⟩ w) (hv : VR r v v') (he : (execOp a.eval o).run P w = .ok (.value v') w) : PDoes P o a r h w v h :=
  ⟨rfl, v', he, hv⟩
theorem PlOk.op {P : Program} {o : Oper} {f : OpT} (h : PlOk P o f) : OpOk P o f := by
  intro t g k x r a w hf hr he
  obtain ⟨v, h', h1, h2, v', h3, h4⟩ := h t g k x r a w g.next hf hr he
  subst h2
  exact ⟨v, _, h1, r, w, v', .inl h3, h4, Post.refl hr⟩
/-- A new object, which may come to lie in the model's memory later. -/
def LDoes (P : Program) (o : Oper) (a : Act) (r : Ren) (g : AH) (w : World) (i : Nat) (v : AV) : Prop :=
  ∃ s w' v', (execOp a.eval o).run P w = .ok (.value v') w' ∧ VR s v v' ∧ LPost P r g w i s w'
structure LateOk (P : Program) (o : Oper) (f : OpT) : Prop where
  makes : ∀ (t : Fr) (h : AH) (k : KV) (x : RV), f t h k = some x → ∃ v ob, k v (h.new ob) = some x
  does : ∀ (t : Fr) (h : AH) (k : KV) (x : RV) (r : Ren) (a : Act), f t h k = some x → EvOk r t a o.op.operands.toList →
    ∃ v ob, k v (h.new ob) = some x ∧ ∀ (w : World) (g : AH), Rel P r g w → r h.next = none → h.next < g.next → (∀ o', g.get h.next = some o' → o' = ob) → LDoes P o a r g w h.next v
theorem new_get {P : Program} {r : Ren} {w : World} {h g : AH} {ob o' : OB} (hr : Rel P r g w) (h1 : g.get h.next = some o') (h2 : (h.new ob).get h.next = some o') : o' = ob := by
  have := hr.small _ _ h1
  rw [AH.get_new, if_pos ⟨rfl, this⟩] at h2
  cases h2
  rfl
theorem LateOk.op {P : Program} {o : Oper} {f : OpT} (h : LateOk P o f) : OpOk P o f := by
  intro t g k x r a w hf hr he
  obtain ⟨v, ob, h1, h2⟩ := h.does t g k x r a hf he
  obtain ⟨s, w', v', h3, h4, h5⟩ := h2 w (g.new ob) (hr.new ob) hr.fresh (by simp) fun o' ho => by
    rw [AH.get_new] at ho
    split at ho
    · cases ho; rfl
    · rename_i hno
      exact absurd (hr.small _ _ ho) fun e => hno ⟨rfl, e⟩
  exact ⟨v, _, h1, s, w', v', .inl h3, h4, h5.post hr⟩

section
variable {P : Program} {o : Oper}
theorem fail_ok : OpOk P o failB.f := fun t h k x r a w hf => by cases hf
theorem fail_pl : PlOk P o failB.f := fun t h k x r a w N hf => by cases hf
theorem fail_late : LateOk P o failB.f := ⟨fun t h k x hf => (by cases hf), fun t h k x r a hf => (by cases hf)⟩

theorem move_ok {x : Operand} (ho : o.op = .move x ∨ o.op = .assign x) : PlOk P o (moveC (evB x).f) := by
  intro t h k y r a w N hf hr he
  refine ⟨_, _, hf, PDoes.pure hr (he x ?_) ?_⟩
  · rcases ho with ho | ho <;> simp [ho, Op.operands]
  · rcases ho with ho | ho <;> simp [execOp, ho]

theorem pick_ok {c x y : Operand} (ho : o.op = .pick c x y) : PlOk P o (pickC (evB c).f (evB x).f (evB y).f) := by
  intro t h k z r a w N hf hr he
  rw [ho] at he
  unfold pickC at hf
  obtain ⟨h1, h2⟩ := ifB_some hf
  obtain ⟨b, hb, hb2⟩ := (he c (by simp [Op.operands])).inv1 (beq_of h1)
  rw [hb2] at h2
  cases b with
  | true => exact ⟨_, _, h2, PDoes.pure hr (he x (by simp [Op.operands])) (by simp [execOp, ho, hb, asBool])⟩
  | false => exact ⟨_, _, h2, PDoes.pure hr (he y (by simp [Op.operands])) (by simp [execOp, ho, hb, asBool])⟩

/-- New cells. -/
theorem late_cells {r : Ren} {g : AH} {w : World} {i : Nat} (hr : Rel P r g w) (hn : r i = none) (hi : i < g.next) {l : List AV} {vs : Array Value} {e n : Nat} (hob : ∀ o', g.get i = some o' → o' = .arr l e) (hl : VRs r l vs.toList) (hk : szA P e = some n) :
    LPost P r g w i (r.set i ⟨w.heap.size, 0, vs.size, n⟩) (w.alloc (.cells vs e)) := by
  refine LPost.alloc hr hn hi hob rfl (.arr (heap_push_new w _) (.inl rfl) rfl ?_ hk fun j a ha => ?_)
  · have := hl.length
    simp at this
    simp [this]
  · obtain ⟨v, h1, h2⟩ := hl.get ha
    exact ⟨v, by simpa using h1, h2.mono (r.le_set _ hn)⟩

theorem alloc_ok {e : TypeId} {z : List AV} {n : Nat} (ho : o.op = .alloc e) (hz : zeroA P e = some z) (hn : szA P e = some n) : LateOk P o (allocC z e) := by
  refine ⟨fun t h k x hf => ⟨_, _, hf⟩, fun t h k y r a hf he => ⟨_, _, hf, fun w g hr h0 hi hob => ?_⟩⟩
  obtain ⟨v, h1, rfl, -⟩ := run_zero (P := P) (w := w) hz
  refine ⟨_, _, _, ?_, .ptr 0 (Ren.set_same _ _ _), late_cells hr h0 hi hob (VRs_ofV1 r v.cells.toList) hn⟩
  simp [execOp, ho, Instr.alloc, h1, newVar, newRow]

theorem box_ok {e : TypeId} {x : Operand} {n : Nat} (ho : o.op = .box e x) (hn : szA P e = some n) : LateOk P o (boxC (evB x).f e) := by
  refine ⟨fun t h k y hf => ?_, fun t h k y r a hf he => ?_⟩
  · exact ⟨_, _, (ifB_some hf).2⟩
  have hx := he x (by simp [ho, Op.operands])
  obtain ⟨h7, hf⟩ := ifB_some hf
  refine ⟨_, _, hf, fun w g hr h0 hi hob => ⟨_, _, _, ?_, .ptr 0 (Ren.set_same _ _ _), late_cells hr h0 hi hob (hx.cells (Nat.le_of_ble_eq_true h7)) hn⟩⟩
  simp [execOp, ho, Instr.box, newVar, newRow]
end
end Go.Proofs.YtfkdkbekmimhoaaGreatDoor
/- The machine for closed runs: loads, stores, parts. -/
namespace Go.Proofs.YtfkdkbekmimhoaaGreatDoor

theorem addr_add (b o j : Nat) : (⟨b, o, none⟩ : Addr).add j = ⟨b, o + j, none⟩ := by
  unfold Addr.add
  split
  · rename_i h
    subst h
    rfl
  · rfl

section
variable {β : Type} {x : β}
theorem cellsK_some {h : AH} {p : AV} {k : OB → R} {x : RV} (hf : cellsK h p k = some x) : p.tag = 3 ∧ p.a = 1 ∧ ∃ o, h.get p.b = some o ∧ o.kind = 0 ∧ k o = some x := by
  obtain ⟨h1, hf⟩ := ifB_some hf
  obtain ⟨h2, hf⟩ := ifB_some hf
  obtain ⟨o, h3, hf⟩ := optK_some hf
  obtain ⟨h4, hf⟩ := ifB_some hf
  exact ⟨beq_of h1, beq_of h2, o, h3, beq_of h4, hf⟩
end

section
variable {P : Program} {r : Ren} {h : AH} {w : World}
theorem ObR.cells {p : Pl} {o : OB} (ho : ObR P r p w o) (hk : o.kind = 0) : ∃ cur fz, w.heap[p.blk]? = some (.cells cur o.n fz) ∧ (fz = (0, 0) ∨ cur.size ≤ fz.1) ∧ cur.size = p.sz ∧ p.base + o.cs.length ≤ p.sz ∧ szA P o.n = some p.k ∧
    (∀ (j : Nat) (a : AV), o.cs[j]? = some a → ∃ v, cur[p.base + j]? = some v ∧ VR r a v) ∧ o = .arr o.cs o.n := by
  cases ho with
  | arr h1 h2 h3 h4 h5 h6 => exact ⟨_, _, h1, h2, h3, h4, h5, h6, rfl⟩
  | map h1 h2 h3 => cases hk
  | lit h1 h2 h3 h4 h5 => cases hk
  | iter h1 h2 h3 => cases hk
  | loop h1 h2 h3 h4 h5 h6 h7 => cases hk
theorem cell_of {b : Nat} {cur : Array Value} {e : TypeId} {fz : Nat × Nat} (hb : w.heap[b]? = some (.cells cur e fz)) (o : Nat) : w.cell? ⟨b, o, none⟩ = cur[o]? := by
  simp [World.cell?, hb]

/-- A part, loaded. -/
theorem part_load {ty : TypeId} {cs : List AV} {off : Nat} {k : AV → R} {x : RV} {b base : Nat} (hf : (partB P ty).f cs off k = some x) (hc : ∀ (j : Nat) (a : AV), cs[j]? = some a → ∃ v, w.cell? ⟨b, base + j, none⟩ = some v ∧ VR r a v) :
    ∃ a v, k a = some x ∧ (loadVar ty ⟨b, base + off, none⟩).run P w = .ok v w ∧ VR r a v := by
  unfold partB at hf
  split at hf
  · rename_i n hagg hsz
    obtain ⟨h1, h2⟩ := takeK_some hf
    have hv : ∀ j, j < n → ∃ v, w.cell? ⟨b, base + off + j, none⟩ = some v ∧ VR r (cs.getD (off + j) AV.undef) v := fun j hj => by
      have hlt : off + j < cs.length := by omega
      obtain ⟨v, h3, h4⟩ := hc (off + j) cs[off + j] (List.getElem?_eq_getElem hlt)
      exact ⟨v, by rw [Nat.add_assoc]; exact h3, by simpa [List.getD, List.getElem?_eq_getElem hlt] using h4⟩
    have hcell : ∀ j, j < n → w.cell? ((⟨b, base + off, none⟩ : Addr).add j) = some ((w.cell? ⟨b, base + off + j, none⟩).getD undef) := fun j hj => by
      obtain ⟨v, h3, -⟩ := hv j hj
      rw [addr_add, h3]
      rfl
    refine ⟨_, .agg ((List.range n).map fun j => (w.cell? ⟨b, base + off + j, none⟩).getD undef).toArray, h2, ?_, .agg _ (VRs.of_get ?_ fun i a v h3 h4 => ?_)⟩
    · simp only [loadVar, Sem.run_bind, run_agg hagg, Result.andThen_ok, if_true, Sem.run_bind, run_size hsz, run_loadCells w _ n _ hcell, Sem.run_pure]
    · simp
      omega
    · have hi : i < n := by
        have := (List.getElem?_eq_some_iff.1 h3).1
        simp at this
        omega
      obtain ⟨v', h5, h6⟩ := hv i hi
      simp [List.getElem?_map, List.getElem?_range hi] at h4
      rw [h5] at h4
      simp at h4
      subst h4
      rw [List.getElem?_take, if_pos hi, List.getElem?_drop] at h3
      simpa [List.getD, h3] using h6
  · rename_i _ _ hagg
    obtain ⟨a, h1, h2⟩ := nthK_some hf
    obtain ⟨v, h3, h4⟩ := hc off a h1
    exact ⟨a, v, h2, by simp [loadVar, run_agg hagg, h3], h4⟩
  · cases hf

/-- A part of a value. -/
theorem part_val {ty : TypeId} {l : List AV} {off : Nat} {k : AV → R} {x : RV} {vs : Array Value} (hf : (partB P ty).f l off k = some x) (hl : VRs r l vs.toList) :
    ∃ a v, k a = some x ∧ (part ty vs off).run P w = .ok v w ∧ VR r a v := by
  unfold partB at hf
  split at hf
  · rename_i n hagg hsz
    obtain ⟨h1, h2⟩ := takeK_some hf
    refine ⟨_, .agg (vs.extract off (off + n)), h2, by simp [part, run_agg hagg, run_size hsz], .agg _ ?_⟩
    have := VRs.take n (VRs.drop off hl)
    have e : (vs.extract off (off + n)).toList = (vs.toList.drop off).take n := by
      simp [Array.toList_extract, List.extract]
    rw [e]
    exact this
  · rename_i _ _ hagg
    obtain ⟨a, h1, h2⟩ := nthK_some hf
    obtain ⟨v, h3, h4⟩ := hl.get h1
    have h5 : vs[off]? = some v := by simpa using h3
    exact ⟨a, v, h2, by simp [part, run_agg hagg, h5], h4⟩
  · cases hf
end

section
variable {P : Program} {o : Oper}
theorem load_ok {ty : TypeId} {x : Operand} (ho : o.op = .load ty x) : PlOk P o (loadC (evB x).f (partB P ty).f) := by
  intro t h k y r a w N hf hr he
  have hx := he x (by simp [ho, Op.operands])
  obtain ⟨h1, h2, ob, h3, h4, hf⟩ := cellsK_some hf
  obtain ⟨p, h5, h6, -⟩ := hx.inv3 h1 h2
  obtain ⟨cur, fz, c1, c2, c3, c4, c5, c6, -⟩ := (hr.live _ _ _ h3 h5).cells h4
  obtain ⟨av, v, h7, h8, h9⟩ := part_load (P := P) (r := r) (w := w) (b := p.blk) (base := p.base) hf fun j b hj => by
    obtain ⟨v, h, h'⟩ := c6 j b hj
    exact ⟨v, by rw [cell_of c1]; exact h, h'⟩
  exact ⟨av, h, h7, PDoes.pure hr h9 (by simp [execOp, ho, h6, Instr.loadAt, Instr.sureAddr, h8])⟩

theorem field_ok {s : TypeId} {x : Operand} {f : Nat} {fs : Array Field} {fd : Field} (ho : o.op = .field s x f) (hs : P.underlying s = some (.struct fs)) (hf0 : fs[f]? = some fd) : PlOk P o (fieldC (evB x).f (partB P fd.type).f fd.offset) := by
  intro t h k y r a w N hf hr he
  have hx := he x (by simp [ho, Op.operands])
  obtain ⟨h1, hf⟩ := ifB_some hf
  obtain ⟨cs, h2, h3⟩ := hx.inv7 (beq_of h1)
  obtain ⟨av, v, h7, h8, h9⟩ := part_val (P := P) (w := w) hf h3
  exact ⟨av, h, h7, PDoes.pure hr h9 (by simp [execOp, ho, h2, Instr.field, run_underlying hs, hf0, asAgg, h8])⟩

/-- The cells of a block, written. -/
def wcells (w : World) (b : Nat) (cur : Array Value) (e : TypeId) (fz : Nat × Nat) : World := { w with heap := w.heap.setIfInBounds b (.cells cur e fz) }
theorem wcells_get {w : World} {b : Nat} (cur : Array Value) (e : TypeId) (fz : Nat × Nat) (hb : b < w.heap.size) : (wcells w b cur e fz).heap[b]? = some (.cells cur e fz) := by
  simp [wcells, hb]
theorem wcells_ne {w : World} {b : Nat} (cur : Array Value) (e : TypeId) (fz : Nat × Nat) {j : Nat} (hj : j ≠ b) : (wcells w b cur e fz).heap[j]? = w.heap[j]? := by
  simp [wcells, Array.getElem?_setIfInBounds_ne (Ne.symm hj)]
theorem wcells_size {w : World} {b : Nat} (cur : Array Value) (e : TypeId) (fz : Nat × Nat) : (wcells w b cur e fz).heap.size = w.heap.size := by simp [wcells]
theorem wcells_self {w : World} {b : Nat} {cur : Array Value} {e : TypeId} {fz : Nat × Nat} (h : w.heap[b]? = some (.cells cur e fz)) : wcells w b cur e fz = w := by
  have : w.heap.setIfInBounds b (.cells cur e fz) = w.heap := by
    apply Array.ext_getElem?
    intro i
    by_cases hi : i = b
    · subst hi
      rw [h]
      have := (Array.getElem?_eq_some_iff.1 h).1
      simp [this]
    · rw [Array.getElem?_setIfInBounds_ne (Ne.symm hi)]
  simp only [wcells, this]
theorem wcells_set {w : World} {b o : Nat} {cur : Array Value} {e : TypeId} {fz : Nat × Nat} (hb : b < w.heap.size) (v : Value) : (wcells w b cur e fz).setCell ⟨b, o, none⟩ v = wcells w b (cur.setIfInBounds o v) e fz := by
  have : (w.heap.setIfInBounds b (.cells cur e fz)).modify b (fun | .cells c elem frozen => .cells (c.setIfInBounds o v) elem frozen | o => o) = w.heap.setIfInBounds b (.cells (cur.setIfInBounds o v) e fz) := by
    apply Array.ext_getElem?
    intro i
    rw [Array.getElem?_modify]
    by_cases hi : b = i
    · subst hi
      simp [hb]
    · rw [if_neg hi, Array.getElem?_setIfInBounds_ne hi, Array.getElem?_setIfInBounds_ne hi]
  exact congrArg (fun h => ({ w with heap := h } : World)) this
/-- A row with some cells laid over. -/
def overV (cur : Array Value) : Nat → List Value → Array Value
  | _, [] => cur
  | o, v :: vs => overV (cur.setIfInBounds o v) (o + 1) vs
theorem overV_size (cur : Array Value) : ∀ (o : Nat) (vs : List Value), (overV cur o vs).size = cur.size
  | _, [] => rfl
  | o, v :: vs => by
    rw [overV, overV_size (cur.setIfInBounds o v) (o + 1) vs]
    simp
theorem overV_get : ∀ (vs : List Value) (cur : Array Value) (o j : Nat), o + vs.length ≤ cur.size → (overV cur o vs)[j]? = if o ≤ j ∧ j < o + vs.length then vs[j - o]? else cur[j]?
  | [], cur, o, j, h => by rw [if_neg (by simp only [List.length_nil]; omega)]; rfl
  | v :: vs, cur, o, j, h => by
    simp only [List.length_cons] at h ⊢
    rw [overV, overV_get vs _ (o + 1) j (by simp; omega)]
    by_cases h1 : o + 1 ≤ j ∧ j < o + 1 + vs.length
    · rw [if_pos h1, if_pos (by omega), show j - o = (j - (o + 1)) + 1 by omega]
      rfl
    · by_cases h2 : j = o
      · subst h2
        have hlt : j < cur.size := by omega
        rw [if_neg (by omega), if_pos (by omega)]
        simp [hlt]
      · rw [if_neg (by omega), if_neg (by omega), Array.getElem?_setIfInBounds_ne (Ne.symm h2)]
theorem run_storeK {w : World} {b : Nat} {e : TypeId} {fz : Nat × Nat} (hb : b < w.heap.size) : ∀ (vs : List Value) (cur : Array Value) (off i : Nat), (fz = (0, 0) ∨ cur.size ≤ fz.1) → off + i + vs.length ≤ cur.size → (∀ v ∈ vs, v.oneCell' = true) →
    (storeCells ⟨b, off, none⟩ vs i).run P (wcells w b cur e fz) = .ok () (wcells w b (overV cur (off + i) vs) e fz)
  | [], cur, off, i, _, _, _ => by simp [storeCells, overV]
  | v :: vs, cur, off, i, hfz, hl, h1 => by
    simp only [List.length_cons] at hl
    have hc : (wcells w b cur e fz).cell? ⟨b, off + i, none⟩ = some cur[off + i] := by
      rw [cell_of (wcells_get cur e fz hb)]
      simp
    have hfr : (wcells w b cur e fz).frozen? ⟨b, off + i, none⟩ = false := by
      simp only [World.frozen?, wcells_get cur e fz hb]
      rcases hfz with rfl | hfz
      · simp
      · simp
        omega
    simp only [storeCells, Sem.run_bind, addr_add, run_store P _ _ _ _ (h1 v (by simp)), hc, hfr, Bool.false_eq_true, if_false, Result.andThen_ok, wcells_set hb]
    have := run_storeK (e := e) (fz := fz) hb vs (cur.setIfInBounds (off + i) v) off (i + 1) (by simpa using hfz) (by simp; omega) (fun u hu => h1 u (by simp [hu]))
    rw [this]
    rfl

theorem over_get (l : List AV) (o : Nat) (vs : List AV) (h : o + vs.length ≤ l.length) (j : Nat) : (over l o vs)[j]? = if o ≤ j ∧ j < o + vs.length then vs[j - o]? else l[j]? := by
  unfold over
  have ht : (l.take o).length = o := by simp; omega
  by_cases h1 : j < o
  · rw [if_neg (by omega), List.append_assoc, List.getElem?_append_left (by omega), List.getElem?_take, if_pos h1]
  · rw [List.append_assoc, List.getElem?_append_right (by omega), ht]
    by_cases h2 : j < o + vs.length
    · rw [if_pos (by omega), List.getElem?_append_left (by omega)]
    · rw [if_neg (by omega), List.getElem?_append_right (by omega), List.getElem?_drop]
      congr 1
      omega

/-- A store behind a pointer. -/
theorem store_post {r : Ren} {h : AH} {w : World} (hr : Rel P r h w) {i off : Nat} {ob : OB} {p : Pl} (hg : h.get i = some ob) (hk : ob.kind = 0) (hp : r i = some p) {l : List AV} {vs : List Value} (hl : VRs r l vs) (h1 : ∀ v ∈ vs, v.oneCell' = true) (hb : off + l.length ≤ ob.cs.length ∨ l = []) :
    ∃ w', (storeCells ⟨p.blk, p.base + off, none⟩ vs).run P w = .ok () w' ∧ Post P r h w r (h.put i (some (.arr (over ob.cs off l) ob.n))) w' := by
  obtain ⟨cur, fz, c1, c2, c3, c4, c5, c6, c7⟩ := (hr.live _ _ _ hg hp).cells hk
  have hlt : p.blk < w.heap.size := (Array.getElem?_eq_some_iff.1 c1).1
  have hlen := hl.length
  rcases hb with hb | rfl
  · have hrun := run_storeK (P := P) (e := ob.n) (fz := fz) hlt vs cur (p.base + off) 0 c2 (by omega) h1
    rw [wcells_self c1] at hrun
    refine ⟨_, hrun, Post.put hr hg hp (wcells_size _ _ _) (fun b hb => wcells_ne _ _ _ hb) (.arr (wcells_get _ _ _ hlt) (by rw [overV_size]; exact c2) (by rw [overV_size]; exact c3) ?_ c5 fun j a hj => ?_) rfl rfl rfl⟩
    · have : (over ob.cs off l).length = ob.cs.length := by unfold over; simp; omega
      omega
    · rw [over_get _ _ _ hb] at hj
      rw [overV_get _ _ _ _ (by omega)]
      by_cases hc : off ≤ j ∧ j < off + l.length
      · rw [if_pos hc] at hj
        rw [if_pos (by omega)]
        obtain ⟨v, h5, h6⟩ := hl.get hj
        exact ⟨v, by rw [← h5]; congr 1; omega, h6⟩
      · rw [if_neg hc] at hj
        rw [if_neg (by omega)]
        exact c6 j a hj
  · have hv : vs = [] := by simpa using hlen.symm
    subst hv
    refine ⟨w, by simp [storeCells], ?_⟩
    have e : over ob.cs off [] = ob.cs := by simp [over]
    rw [e, ← c7]
    exact Post.put hr hg hp rfl (fun _ _ => rfl) (hr.live _ _ _ hg hp) rfl rfl rfl

theorem store_ok {ty : TypeId} {x y : Operand} {sz : Nat} (ho : o.op = .store ty x y) (hs : szA P ty = some sz) : OpOk P o (storeC (evB x).f (evB y).f sz) := by
  intro t h k z r a w hf hr he
  have hx := he x (by simp [ho, Op.operands])
  have hy := he y (by simp [ho, Op.operands])
  unfold storeC storeOk at hf
  obtain ⟨h1, hf⟩ := ifB_some hf
  obtain ⟨h2, hf⟩ := ifB_some hf
  obtain ⟨h3, h4, ob, h5, h6, hf⟩ := cellsK_some hf
  obtain ⟨h7, hf⟩ := setK_some hf
  obtain ⟨p, h8, h9, -⟩ := hx.inv3 h3 h4
  have htag : ((evB y).f t).tag ≤ 7 := by
    by_cases h : ((evB y).f t).tag = 7
    · omega
    · have : Nat.beq ((evB y).f t).tag 7 = false := by
        cases hb : Nat.beq ((evB y).f t).tag 7
        · rfl
        · exact absurd (beq_of hb) h
      unfold cellsOfV at h2
      rw [this] at h2
      simp at h2
      have := Nat.le_of_ble_eq_true h2
      omega
  have hc := hy.cells htag
  have hone : ∀ v ∈ (a.eval y).cells.toList, v.oneCell' = true := by
    intro v hv
    obtain ⟨i, hi⟩ := List.getElem?_of_mem hv
    have hlt := (List.getElem?_eq_some_iff.1 hi).1
    rw [← hc.length] at hlt
    obtain ⟨v', h10, h11⟩ := hc.get (List.getElem?_eq_getElem hlt)
    rw [hi] at h10
    cases h10
    have := List.all_eq_true.1 h2 _ (List.getElem_mem hlt)
    exact (h11.one (Nat.le_of_ble_eq_true this)).1
  obtain ⟨w', h10, h11⟩ := store_post hr h5 h6 h8 hc hone h7
  refine ⟨_, _, hf, r, w', undef, .inr ⟨?_, rfl⟩, VR.undef, h11⟩
  have hz : (a.eval y).cells.size = sz := by
    have := hc.length
    rw [← beq_of h1, this]
    simp
  simp [execOp, ho, h9, Instr.storeAt, Instr.sureAddr, storeVar, run_size hs, hz, h10]

theorem store1_ok {ty : TypeId} {x y : Operand} (ho : o.op = .store ty x y) (hs : szA P ty = some 1) : OpOk P o (store1C (evB x).f (evB y).f) := by
  intro t h k z r a w hf hr he
  have hx := he x (by simp [ho, Op.operands])
  have hy := he y (by simp [ho, Op.operands])
  unfold store1C at hf
  obtain ⟨h2, hf⟩ := ifB_some hf
  obtain ⟨h3, h4, ob, h5, h6, hf⟩ := cellsK_some hf
  obtain ⟨h7, hf⟩ := setK_some hf
  obtain ⟨p, h8, h9, -⟩ := hx.inv3 h3 h4
  obtain ⟨hone, hcells⟩ := hy.one (Nat.le_of_ble_eq_true h2)
  obtain ⟨w', h10, h11⟩ := store_post (vs := [a.eval y]) hr h5 h6 h8 (.cons hy .nil) (by simpa using hone) h7
  refine ⟨_, _, hf, r, w', undef, .inr ⟨?_, rfl⟩, VR.undef, h11⟩
  simp [execOp, ho, h9, Instr.storeAt, Instr.sureAddr, storeVar, run_size hs, hcells, h10]
end
end Go.Proofs.YtfkdkbekmimhoaaGreatDoor
/- The machine for closed runs: operations on values. -/
namespace Go.Proofs.YtfkdkbekmimhoaaGreatDoor

theorem ne_of_beq {m n : Nat} (h : Nat.beq m n = false) : m ≠ n := fun e => by
  subst e
  rw [Nat.beq_refl] at h
  cases h
theorem b_toNat {b : Bool} : Nat.beq b.toNat 1 = b := by cases b <;> rfl
theorem b_toNat0 {b : Bool} : Nat.beq b.toNat 0 = !b := by cases b <;> rfl

section
variable {P : Program} {o : Oper}
theorem nil_ok {x : Operand} (ho : o.op = .nilCheck x) : PlOk P o (nilC (evB x).f) := by
  intro t h k y r a w N hf hr he
  have hx := he x (by simp [ho, Op.operands])
  unfold nilC at hf
  cases h3 : Nat.beq ((evB x).f t).tag 3 with
  | true =>
    rw [h3, ifB_t] at hf
    obtain ⟨h1, hf⟩ := ifB_some hf
    obtain ⟨p, h5, h6, -⟩ := hx.inv3 (beq_of h3) (beq_of h1)
    exact ⟨_, _, hf, PDoes.pure hr hx (by simp [execOp, ho, h6])⟩
  | false =>
    rw [h3, ifB_f] at hf
    obtain ⟨h1, hf⟩ := ifB_some hf
    cases h2 : Nat.beq ((evB x).f t).a 0 with
    | true => rw [h2] at hf; cases hf
    | false =>
      rw [h2, ifB_f] at hf
      obtain ⟨f, u, v, h4, h5⟩ := hx.inv6f (beq_of h1) (ne_of_beq h2)
      refine ⟨_, _, hf, PDoes.pure hr hx ?_⟩
      rcases h5 with ⟨n, rfl⟩ | ⟨n, rfl⟩ <;> simp [execOp, ho, h4]

theorem fieldAddr_ok {s : TypeId} {x : Operand} {f n : Nat} {fs : Array Field} {fd : Field} (ho : o.op = .fieldAddr s x f) (hs : P.underlying s = some (.struct fs)) (hf0 : fs[f]? = some fd) (hz : szA P fd.type = some (n + 1)) : PlOk P o (fieldAddrC (evB x).f fd.offset) := by
  intro t h k y r a w N hf hr he
  have hx := he x (by simp [ho, Op.operands])
  obtain ⟨h1, hf⟩ := ifB_some hf
  obtain ⟨h2, hf⟩ := ifB_some hf
  obtain ⟨p, h5, h6, -⟩ := hx.inv3 (beq_of h1) (beq_of h2)
  refine ⟨_, _, hf, PDoes.pure hr (.ptr _ h5) ?_⟩
  simp [execOp, ho, h6, Instr.fieldAt, run_underlying hs, hf0, Instr.sureAddr, fieldPlace, run_size hz, addr_add, Nat.add_assoc]

theorem indexAddr_ok {ty e : TypeId} {x i : Operand} {s : Nat} (ho : o.op = .indexAddr ty x i) (ht : P.underlying ty = some (.slice e)) (hs : szA P e = some s) : PlOk P o (indexAddrC (evB x).f (evB i).f s) := by
  intro t h k y r a w N hf hr he
  have hx := he x (by simp [ho, Op.operands])
  have hi := he i (by simp [ho, Op.operands])
  obtain ⟨h1, hf⟩ := ifB_some hf
  obtain ⟨h2, hf⟩ := ifB_some hf
  obtain ⟨h3, hf⟩ := ifB_some hf
  obtain ⟨n, h4, hf⟩ := natK_some hf
  obtain ⟨h5, hf⟩ := ifB_some hf
  have hlt := Nat.le_of_ble_eq_true h5
  obtain ⟨p, o', c', h6, h7, h8, h9, h10, h11, h12, h13⟩ := hx.inv4 (beq_of h1) (beq_of h2)
  obtain ⟨ki, h14, -⟩ := hi.inv0 (beq_of h3)
  have ho' : o' = p.base + ((evB x).f t).c := by
    rcases h10 with h | h
    · omega
    · exact h
  subst ho'
  refine ⟨_, _, hf, PDoes.pure hr (.ptr _ h6) ?_⟩
  have hlt2 : (n : Int) < (((evB x).f t).d : Int) := by omega
  simp [execOp, ho, h7, h14, h4, Instr.indexAt, asIntOf, run_underlying ht, run_size hs, addr_add, Nat.add_assoc]
  intro hc
  omega

theorem indexPtr_ok {ty e : TypeId} {x i : Operand} {s m : Nat} (ho : o.op = .indexAddr ty x i) (ht : P.underlying ty = some (.array m e)) (hs : szA P e = some s) : PlOk P o (indexPtrC (evB x).f (evB i).f s m) := by
  intro t h k y r a w N hf hr he
  have hx := he x (by simp [ho, Op.operands])
  have hi := he i (by simp [ho, Op.operands])
  obtain ⟨h1, hf⟩ := ifB_some hf
  obtain ⟨h2, hf⟩ := ifB_some hf
  obtain ⟨h3, hf⟩ := ifB_some hf
  obtain ⟨n, h4, hf⟩ := natK_some hf
  obtain ⟨h5, hf⟩ := ifB_some hf
  have hlt := Nat.le_of_ble_eq_true h5
  obtain ⟨p, h6, h7, -⟩ := hx.inv3 (beq_of h1) (beq_of h2)
  obtain ⟨ki, h14, -⟩ := hi.inv0 (beq_of h3)
  refine ⟨_, _, hf, PDoes.pure hr (.ptr _ h6) ?_⟩
  have hlt2 : (n : Int) < (m : Int) := by omega
  simp [execOp, ho, h7, h14, h4, Instr.indexAt, asIntOf, run_underlying ht, Instr.sureAddr, run_size hs, addr_add, Nat.add_assoc]
  intro hc
  omega

theorem bytes_get (s : ByteArray) (n : Nat) : s[n]? = s.data.toList[n]? := by
  by_cases h : n < s.size
  · rw [getElem?_pos s n h]
    have h2 : n < s.data.toList.length := by simpa using h
    rw [List.getElem?_eq_getElem h2]
    rfl
  · rw [getElem?_neg s n h]
    symm
    rw [List.getElem?_eq_none]
    simp
    have : s.size = s.data.size := rfl
    omega

theorem bytes_list (s : ByteArray) : s.toList = s.data.toList := ByteArray.toList_eq s
theorem sindex_ok {ty : TypeId} {x i : Operand} (ho : o.op = .index ty x i) (ht : P.underlying ty = some .string) : PlOk P o (sindexC (evB x).f (evB i).f) := by
  intro t h k y r a w N hf hr he
  have hx := he x (by simp [ho, Op.operands])
  have hi := he i (by simp [ho, Op.operands])
  obtain ⟨h1, hf⟩ := ifB_some hf
  obtain ⟨h3, hf⟩ := ifB_some hf
  obtain ⟨n, h4, hf⟩ := natK_some hf
  obtain ⟨b, h5, hf⟩ := snthK_some hf
  obtain ⟨s, h6, h7⟩ := hx.inv2 (beq_of h1)
  obtain ⟨ki, h8, -⟩ := hi.inv0 (beq_of h3)
  rw [h7, ← bytes_get] at h5
  refine ⟨_, _, hf, PDoes.pure hr (.int .u8 _) ?_⟩
  simp [execOp, ho, h6, h8, h4, Instr.index, asIntOf, run_underlying ht, h5]

theorem extract_ok {x : Operand} {i : Nat} (ho : o.op = .extract x i) : PlOk P o (extractC (evB x).f i) := by
  intro t h k y r a w N hf hr he
  have hx := he x (by simp [ho, Op.operands])
  obtain ⟨h1, hf⟩ := ifB_some hf
  obtain ⟨v, h5, hf⟩ := nthK_some hf
  obtain ⟨cs, h6, h7⟩ := hx.inv8 (beq_of h1)
  obtain ⟨u, h8, h9⟩ := h7.get h5
  have h10 : cs[i]? = some u := by simpa using h8
  exact ⟨_, _, hf, PDoes.pure hr h9 (by simp [execOp, ho, h6, Instr.extract, h10])⟩

theorem not_ok {ty : TypeId} {x : Operand} (ho : o.op = .unOp .not ty x) : PlOk P o (notC (evB x).f) := by
  intro t h k y r a w N hf hr he
  have hx := he x (by simp [ho, Op.operands])
  obtain ⟨h1, hf⟩ := ifB_some hf
  obtain ⟨b, h6, h7⟩ := hx.inv1 (beq_of h1)
  rw [h7, b_toNat0] at hf
  exact ⟨_, _, hf, PDoes.pure hr (.bool _) (by simp [execOp, ho, h6, Op.unary])⟩

section
variable {c : Call} {x : Operand}
theorem len_ok {e : TypeDesc} {f : OpT} (ho : o.op = .call c) (hc : c.callee = .builtin .len) (ha : c.args = #[x]) {ty : TypeId} (hty : c.argTypes[0]? = some ty) (ht : P.underlying ty = some e)
    (hd : (∃ u, e = .slice u ∧ f = lenC (evB x).f) ∨ (e = .string ∧ f = slenC (evB x).f) ∨ (∃ u v, e = .map u v ∧ f = mlenC (evB x).f)) : PlOk P o f := by
  intro t h k y r a w N hf hr he
  have hx := he x (by simp [ho, Op.operands, Call.operands, ha, hc])
  have hrun : ∀ v : Value, (Builtin.len_ c.argTypes o.type #[a.eval x]).run P w = .ok v w → (execOp a.eval o).run P w = .ok (.value v) w := fun v hv => by
    simp [execOp, ho, resolve, hc, ha, invoke, builtin, hv]
  rcases hd with ⟨u, rfl, rfl⟩ | ⟨rfl, rfl⟩ | ⟨u, v, rfl, rfl⟩
  · obtain ⟨h1, hf⟩ := ifB_some hf
    refine ⟨_, _, hf, PDoes.pure hr (.int .i64 _) (hrun _ ?_)⟩
    by_cases h2 : ((evB x).f t).a = 1
    · obtain ⟨p, o', c', h6, h7, -⟩ := hx.inv4 (beq_of h1) h2
      simp [Builtin.len_, hty, h7, run_underlying ht, goInt]
    · obtain ⟨h7, h8⟩ := hx.inv4n (beq_of h1) h2
      simp [Builtin.len_, hty, h7, run_underlying ht, goInt, h8, AV.snil]
  · obtain ⟨h1, hf⟩ := ifB_some hf
    obtain ⟨s, h6, h7⟩ := hx.inv2 (beq_of h1)
    have e : ((evB x).f t).s.length = s.size := by rw [h7]; rfl
    rw [e] at hf
    exact ⟨_, _, hf, PDoes.pure hr (.int .i64 _) (hrun _ (by simp [Builtin.len_, hty, h6, run_underlying ht, goInt]))⟩
  · obtain ⟨h1, hf⟩ := ifB_some hf
    cases h2 : Nat.beq ((evB x).f t).a 0 with
    | true =>
      rw [h2, ifB_t] at hf
      have h7 := (hx.inv5n (beq_of h1) (by rw [beq_of h2]; decide)).1
      exact ⟨_, _, hf, PDoes.pure hr (.int .i64 _) (hrun _ (by simp [Builtin.len_, hty, h7, run_underlying ht, goInt]))⟩
    | false =>
      rw [h2, ifB_f] at hf
      obtain ⟨ob, h3, hf⟩ := optK_some hf
      obtain ⟨h4, hf⟩ := ifB_some hf
      by_cases h5 : ((evB x).f t).a = 1
      · obtain ⟨p, h6, h7⟩ := hx.inv5 (beq_of h1) h5
        have hl := hr.live _ _ _ h3 h6
        cases hl with
        | arr _ _ _ _ _ _ => cases h4
        | lit _ _ _ _ _ => cases h4
        | iter _ _ _ => cases h4
        | loop _ _ _ _ _ _ _ _ => cases h4
        | map h8 h9 h10 =>
          refine ⟨_, _, hf, PDoes.pure hr (.int .i64 _) (hrun _ ?_)⟩
          have := h9.length
          simp [Builtin.len_, hty, h7, run_underlying ht, goInt, getObj, Sem.run, h8, OB.map, this]
      · have h7 := (hx.inv5n (beq_of h1) h5).2
        rw [h7] at h2
        cases h2
end

theorem ints_ok {x y : AV} {r : Ren} {u v : Value} {k : R} {z : RV} (hf : intsK x y k = some z) (hx : VR r x u) (hy : VR r y v) : ∃ kd, u = .int kd x.i ∧ v = .int kd y.i ∧ x.a = kindN kd ∧ k = some z := by
  obtain ⟨h1, hf⟩ := ifB_some hf
  obtain ⟨h2, hf⟩ := ifB_some hf
  obtain ⟨h3, hf⟩ := ifB_some hf
  obtain ⟨k1, h4, h5⟩ := hx.inv0 (beq_of h1)
  obtain ⟨k2, h6, h7⟩ := hy.inv0 (beq_of h2)
  have := kindN_inj (h5.symm.trans ((beq_of h3).trans h7))
  subst this
  exact ⟨k1, h4, h6, h5, hf⟩

theorem cmp_ok {op : BinOp} {ty ty' : TypeId} {x y : Operand} {f : Int → Int → Bool} (ho : o.op = .binOp op ty x y ty')
    (hop : (op = .lss ∧ ∀ a b, f a b = decide (a < b)) ∨ (op = .leq ∧ ∀ a b, f a b = decide (a ≤ b)) ∨ (op = .gtr ∧ ∀ a b, f a b = decide (a > b)) ∨ (op = .geq ∧ ∀ a b, f a b = decide (a ≥ b))) : PlOk P o (cmpC f (evB x).f (evB y).f) := by
  intro t h k z r a w N hf hr he
  obtain ⟨kd, h1, h2, -, hf⟩ := ints_ok hf (he x (by simp [ho, Op.operands])) (he y (by simp [ho, Op.operands]))
  refine ⟨_, _, hf, PDoes.pure hr (.bool _) ?_⟩
  rcases hop with ⟨rfl, e⟩ | ⟨rfl, e⟩ | ⟨rfl, e⟩ | ⟨rfl, e⟩ <;> simp [execOp, ho, h1, h2, eqGuard, binOp, Op.intCmp, e]

theorem arith_ok {op : BinOp} {ty ty' : TypeId} {x y : Operand} {f : Int → Int → Int} (ho : o.op = .binOp op ty x y ty')
    (hop : (op = .add ∧ ∀ a b, f a b = IntKind.i64.wrap (a + b)) ∨ (op = .sub ∧ ∀ a b, f a b = IntKind.i64.wrap (a - b))) : PlOk P o (arithC f (evB x).f (evB y).f) := by
  intro t h k z r a w N hf hr he
  obtain ⟨h0, hf⟩ := ifB_some hf
  obtain ⟨kd, h1, h2, h3, hf⟩ := ints_ok hf (he x (by simp [ho, Op.operands])) (he y (by simp [ho, Op.operands]))
  have hk : kd = .i64 := kindN_inj (k' := .i64) (h3.symm.trans (beq_of h0))
  subst hk
  refine ⟨_, _, hf, PDoes.pure hr (.int .i64 _) ?_⟩
  rcases hop with ⟨rfl, e⟩ | ⟨rfl, e⟩ <;> simp [execOp, ho, h1, h2, eqGuard, binOp, Op.intArith, e]

theorem addStr_ok {ty ty' : TypeId} {x y : Operand} (ho : o.op = .binOp .add ty x y ty') : PlOk P o (addStrC (evB x).f (evB y).f) := by
  intro t h k z r a w N hf hr he
  obtain ⟨h1, hf⟩ := ifB_some hf
  obtain ⟨h2, hf⟩ := ifB_some hf
  obtain ⟨h7, hf⟩ := ifB_some hf
  obtain ⟨s, h3, h4⟩ := (he x (by simp [ho, Op.operands])).inv2 (beq_of h1)
  obtain ⟨u, h5, h6⟩ := (he y (by simp [ho, Op.operands])).inv2 (beq_of h2)
  refine ⟨_, _, hf, PDoes.pure hr (v' := .string (s ++ u)) ?_ ?_⟩
  · have := VR.str (r := r) (s ++ u)
    rw [h4, h6]
    simpa using this
  · have hz := Nat.le_of_ble_eq_true h7
    rw [h4, h6] at hz
    have h8 : s.data.toList.length = s.size := rfl
    have h9 : u.data.toList.length = u.size := rfl
    rw [h8, h9] at hz
    have hmax : IntKind.i64.max = 9223372036854775807 := rfl
    have : ¬ ((s.size + u.size : Nat) : Int) > IntKind.i64.max := by rw [hmax]; omega
    simp only [execOp, ho, h3, h5, eqGuard, binOp, Op.stringOp, if_neg this]
    rfl

theorem eqGuard_any {op : BinOp} {ty : TypeId} {x y : Operand} {u v : Value} {w : World} (h : ∀ cs ds, ¬(u = .agg cs ∧ v = .agg ds)) (h2 : ¬(u = .nilIface ∧ v = .nilIface)) : (eqGuard op ty x y u v).run P w = .ok () w := by
  unfold eqGuard
  cases op <;> first | rfl | (cases u <;> cases v <;> first | rfl | exact absurd ⟨rfl, rfl⟩ (h _ _) | exact absurd ⟨rfl, rfl⟩ h2)

/-- What an equality reckons, the model reckons. -/
def EqOk (P : Program) (ty : TypeId) (eq : AV → AV → (Bool → R) → R) : Prop := ∀ (x y : AV) (k : Bool → R) (z : RV) (r : Ren) (u v : Value) (w : World), eq x y k = some z → VR r x u → VR r y v →
  ∃ b, k b = some z ∧ (∀ {op} x y, (eqGuard op ty x y u v).run P w = .ok () w) ∧ (binOp .eql ty u v).run P w = .ok (.bool b) w ∧ (binOp .neq ty u v).run P w = .ok (.bool (!b)) w
theorem eqI_ok {ty : TypeId} : EqOk P ty eqI := by
  intro x y k z r u v w hf hx hy
  have hf' : intsK x y (k (intEq x.i y.i)) = some z := hf
  obtain ⟨kd, rfl, rfl, -, hf⟩ := ints_ok hf' hx hy
  refine ⟨_, hf, fun x y => eqGuard_any (by simp) (by simp), ?_, ?_⟩ <;> simp [binOp, Op.intCmp, intEq_eq, bne]
theorem eqS_ok {ty : TypeId} : EqOk P ty eqS := by
  intro x y k z r u v w hf hx hy
  obtain ⟨h1, hf⟩ := ifB_some hf
  obtain ⟨h2, hf⟩ := ifB_some hf
  obtain ⟨s, rfl, h4⟩ := hx.inv2 (beq_of h1)
  obtain ⟨q, rfl, h6⟩ := hy.inv2 (beq_of h2)
  have e : strEq x.s y.s = (s.toList == q.toList) := by
    rw [h4, h6, Bool.eq_iff_iff, strEq_iff, bytes_list, bytes_list]
    simp
  refine ⟨_, hf, fun x y => eqGuard_any (by simp) (by simp), ?_, ?_⟩ <;> simp [binOp, Op.stringOp, e]
theorem equal_of {ty : TypeId} {u v : Value} {b : Bool} {w : World} (h : ∀ d, (Op.equalIn (d + 1) ty u v).run P w = .ok b w) : (Op.equal ty u v).run P w = .ok b w := h 9999
theorem eqB_ok {ty : TypeId} (ht : P.underlying ty = some .bool) : EqOk P ty eqB := by
  intro x y k z r u v w hf hx hy
  obtain ⟨h1, hf⟩ := ifB_some hf
  obtain ⟨h2, hf⟩ := ifB_some hf
  obtain ⟨b, rfl, h4⟩ := hx.inv1 (beq_of h1)
  obtain ⟨c, rfl, h6⟩ := hy.inv1 (beq_of h2)
  have e : Nat.beq x.a y.a = (b == c) := by rw [h4, h6]; cases b <;> cases c <;> rfl
  have h := equal_of (P := P) (ty := ty) (u := .bool b) (v := .bool c) (b := b == c) (w := w) fun d => by simp [Op.equalIn, run_underlying ht]
  refine ⟨_, hf, fun x y => eqGuard_any (by simp) (by simp), ?_, ?_⟩ <;> rw [e] <;> simp [binOp, h]
theorem eqN_ok {ty : TypeId} {d : TypeDesc} {T : Nat} (ht : P.underlying ty = some d) (hd : (T = 3 ∧ ∃ e, d = .pointer e) ∨ (T = 4 ∧ ∃ e, d = .slice e) ∨ (T = 5 ∧ ∃ e f, d = .map e f) ∨ (T = 6 ∧ ∃ e f g, d = .func e f g)) : EqOk P ty (eqN T) := by
  intro x y k z r u v w hf hx hy
  obtain ⟨h1, hf⟩ := ifB_some hf
  obtain ⟨h2, hf⟩ := ifB_some hf
  have hT1 := beq_of h1
  have hT2 := beq_of h2
  -- one of both is nil
  have key : ∃ b, k b = some z ∧ ((x.a = 0 ∧ y.a = 0 ∧ b = true) ∨ (x.a = 0 ∧ y.a ≠ 0 ∧ b = false) ∨ (x.a ≠ 0 ∧ y.a = 0 ∧ b = false)) := by
    cases h3 : Nat.beq x.a 0 with
    | true =>
      rw [h3, ifB_t] at hf
      refine ⟨_, hf, ?_⟩
      cases h4 : Nat.beq y.a 0 with
      | true => exact .inl ⟨beq_of h3, beq_of h4, rfl⟩
      | false => exact .inr (.inl ⟨beq_of h3, ne_of_beq h4, rfl⟩)
    | false =>
      rw [h3, ifB_f] at hf
      obtain ⟨h4, hf⟩ := ifB_some hf
      exact ⟨_, hf, .inr (.inr ⟨ne_of_beq h3, beq_of h4, rfl⟩)⟩
  obtain ⟨b, hk, hb⟩ := key
  suffices hq : (∀ d, (Op.equalIn (d + 1) ty u v).run P w = .ok b w) ∧ (∀ {op} x y, (eqGuard op ty x y u v).run P w = .ok () w) ∧ binOp .eql ty u v = (do pure (.bool (← Op.equal ty u v))) ∧ binOp .neq ty u v = (do pure (.bool (!(← Op.equal ty u v)))) by
    obtain ⟨q1, q2, q3, q4⟩ := hq
    have q := equal_of q1
    exact ⟨b, hk, q2, by rw [q3]; simp [q], by rw [q4]; simp [q]⟩
  clear hk
  rcases hd with ⟨rfl, e, rfl⟩ | ⟨rfl, e, rfl⟩ | ⟨rfl, e, f, rfl⟩ | ⟨rfl, e, f, g, rfl⟩ <;> cases hx <;> (try (cases hT1; done)) <;> cases hy <;> (try (cases hT2; done)) <;>
    rcases hb with ⟨e1, e2, rfl⟩ | ⟨e1, e2, rfl⟩ | ⟨e1, e2, rfl⟩ <;> (try (cases e1; done)) <;> (try (cases e2; done)) <;> (try (exact absurd rfl e1)) <;> (try (exact absurd rfl e2)) <;>
    exact ⟨fun d => by simp [Op.equalIn, run_underlying ht], fun x y => eqGuard_any (by simp) (by simp), by simp [binOp], by simp [binOp]⟩

theorem eq_ok {ty ty' : TypeId} {x y : Operand} {eq : AV → AV → (Bool → R) → R} (ho : o.op = .binOp .eql ty x y ty') (h : EqOk P ty eq) : PlOk P o (eqC eq (evB x).f (evB y).f) := by
  intro t hh k z r a w N hf hr he
  obtain ⟨b, h1, h2, h3, -⟩ := h _ _ _ _ r _ _ w hf (he x (by simp [ho, Op.operands])) (he y (by simp [ho, Op.operands]))
  exact ⟨_, _, h1, PDoes.pure hr (.bool _) (by simp [execOp, ho, h2 x y, h3])⟩
theorem ne_ok {ty ty' : TypeId} {x y : Operand} {eq : AV → AV → (Bool → R) → R} (ho : o.op = .binOp .neq ty x y ty') (h : EqOk P ty eq) : PlOk P o (neC eq (evB x).f (evB y).f) := by
  intro t hh k z r a w N hf hr he
  obtain ⟨b, h1, h2, -, h3⟩ := h _ _ _ _ r _ _ w hf (he x (by simp [ho, Op.operands])) (he y (by simp [ho, Op.operands]))
  refine ⟨_, _, h1, PDoes.pure hr (v' := .bool (!b)) ?_ (by simp [execOp, ho, h2 x y, h3])⟩
  cases b <;> exact .bool _
theorem eqOf_ok {ty : TypeId} {d : TypeDesc} (ht : P.underlying ty = some d) {f : Bx (AV → AV → (Bool → R) → R)} (hf : eqOf d = some f) : EqOk P ty f.f := by
  unfold eqOf at hf
  split at hf <;> cases hf
  · exact eqI_ok
  · exact eqS_ok
  · exact eqB_ok ht
  · exact eqN_ok ht (.inl ⟨rfl, _, rfl⟩)
  · exact eqN_ok ht (.inr (.inl ⟨rfl, _, rfl⟩))
  · exact eqN_ok ht (.inr (.inr (.inl ⟨rfl, _, _, rfl⟩)))
  · exact eqN_ok ht (.inr (.inr (.inr ⟨rfl, _, _, _, rfl⟩)))

theorem semEv_run {α : Type} : ∀ {m : Sem α} {a : α} {w : World}, semEv P m = some a → m.run P w = .ok a w
  | .pure b, a, w, h => by cases h; rfl
  | .program k, a, w, h => semEv_run (m := k P) h
  | .mark _ k, a, w, h => semEv_run (m := k) h
  | .load .., _, _, h => by cases h
  | .store .., _, _, h => by cases h
  | .new .., _, _, h => by cases h
  | .shape .., _, _, h => by cases h
  | .freeze .., _, _, h => by cases h
  | .frozen .., _, _, h => by cases h
  | .getObj .., _, _, h => by cases h
  | .setObj .., _, _, h => by cases h
  | .choose .., _, _, h => by cases h
  | .sys .., _, _, h => by cases h
  | .halt _, _, _, h => by cases h

theorem pure_ok (hs : ∀ cs b, o.op ≠ .select cs b) : PlOk P o (pureC P o) := by
  intro t h k y r a w N hf hr he
  obtain ⟨h1, hf⟩ := ifB_some hf
  obtain ⟨nx, h2, hf⟩ := optK_some hf
  have hc : execOp (fun x => (toV ((evB x).f t)).getD undef) o = execOp a.eval o := execOp_congr o hs fun x hx => by
    have h3 := List.all_eq_true.1 h1 x (by simpa using hx)
    obtain ⟨v, h4⟩ := Option.isSome_iff_exists.1 h3
    rw [h4, toV_eq (he x (by simpa using hx)) h4]
    rfl
  rw [hc] at h2
  cases nx with
  | value v =>
    obtain ⟨h5, hf⟩ := ifB_some hf
    exact ⟨_, _, hf, PDoes.pure hr (VR_ofV r v) (semEv_run h2)⟩
  | _ => cases hf
end
end Go.Proofs.YtfkdkbekmimhoaaGreatDoor
/- The machine for closed runs: structs, rows, slices. -/
namespace Go.Proofs.YtfkdkbekmimhoaaGreatDoor

theorem foldl_over (off : Nat) : ∀ (l : List Value) (k : Nat) (cs : Array Value), (l.zipIdx k).foldl (fun cs p => cs.setIfInBounds (off + p.2) p.1) cs = overV cs (off + k) l
  | [], _, _ => rfl
  | v :: l, k, cs => by
    rw [List.zipIdx_cons, List.foldl_cons, foldl_over off l (k + 1), overV]
    rfl
theorem fold_over (off : Nat) (vs cs : Array Value) : (vs.zipIdx.foldl (fun cs (c, j) => cs.setIfInBounds (off + j) c) cs) = overV cs off vs.toList := by
  rw [← Array.foldl_toList, Array.toList_zipIdx]
  exact foldl_over off vs.toList 0 cs
theorem VRs.lay {r : Ren} {l : List AV} {zs : Array Value} {off : Nat} {vs : List AV} {us : List Value} (h : VRs r l zs.toList) (hv : VRs r vs us) (hb : off + vs.length ≤ l.length) : VRs r (over l off vs) (overV zs off us).toList := by
  have hl := h.length
  have hu := hv.length
  simp at hl
  refine VRs.of_get ?_ fun i a v h1 h2 => ?_
  · have e : (over l off vs).length = l.length := by unfold over; simp; omega
    exact (e.trans hl).trans (overV_size zs off us).symm
  · rw [over_get _ _ _ hb] at h1
    rw [Array.getElem?_toList, overV_get _ _ _ _ (by omega)] at h2
    by_cases hc : off ≤ i ∧ i < off + vs.length
    · rw [if_pos hc] at h1
      rw [if_pos (by omega)] at h2
      obtain ⟨v', h3, h4⟩ := hv.get h1
      rw [h2] at h3
      cases h3
      exact h4
    · rw [if_neg hc] at h1
      rw [if_neg (by omega)] at h2
      obtain ⟨v', h3, h4⟩ := h.get h1
      rw [Array.getElem?_toList, h2] at h3
      cases h3
      exact h4

section
variable {P : Program} {o : Oper}
theorem fill_step {r : Ren} {place : Nat → Option (Nat × Nat)} {i off sz : Nat} {v : Value} {vs l : List AV} {zs : Array Value} {rest : List (Nat × Value)} (hp : place i = some (off, sz)) (hv : VRs r vs v.cells.toList) (hz : vs.length = sz) (h : VRs r l zs.toList) (hb : off + vs.length ≤ l.length) :
    Instr.fill place zs ((i, v) :: rest) = Instr.fill place (overV zs off v.cells.toList) rest := by
  have h1 := hv.length
  have h2 := h.length
  simp at h1 h2
  rw [Instr.fill]
  simp only [hp]
  rw [if_neg, fold_over]
  simp
  omega
theorem fill_ok {r : Ren} {a : Act} {t : Fr} {x : RV} {place : Nat → Option (Nat × Nat)} : ∀ (parts : List (Nat × Operand)) (l : List AV) (k : List AV → R) (zs : Array Value), (fillB place parts).f t l k = some x → VRs r l zs.toList → (∀ p ∈ parts, VR r ((evB p.2).f t) (a.eval p.2)) →
    ∃ l' us, k l' = some x ∧ Instr.fill place zs (parts.map fun p => (p.1, a.eval p.2)) = some us ∧ VRs r l' us.toList
  | [], l, k, zs, hf, hl, _ => ⟨l, zs, hf, rfl, hl⟩
  | (i, y) :: rest, l, k, zs, hf, hl, he => by
    have hy : VR r ((evB y).f t) (a.eval y) := he (i, y) (by simp)
    have one : ∀ {vs : List AV} {off sz : Nat}, place i = some (off, sz) → VRs r vs (a.eval y).cells.toList → vs.length = sz → vs ≠ [] → (setK none l off vs fun r => (fillB place rest).f t r k) = some x →
        ∃ l' us, k l' = some x ∧ Instr.fill place zs (((i, y) :: rest).map fun p => (p.1, a.eval p.2)) = some us ∧ VRs r l' us.toList := by
      intro vs off sz hp hv hz hne hs
      obtain ⟨hb, hs⟩ := setK_some hs
      have hb := hb.resolve_right hne
      obtain ⟨l', us, h1, h2, h3⟩ := fill_ok rest _ _ _ hs (hl.lay hv hb) fun p hp => he p (by simp [hp])
      exact ⟨l', us, h1, by rw [List.map_cons, fill_step hp hv hz hl hb]; exact h2, h3⟩
    unfold fillB at hf
    split at hf
    · rename_i off hp
      cases h1 : oneCellN ((evB y).f t) with
      | true =>
        simp only [h1, ifB_t] at hf
        have h2 := (hy.one (Nat.le_of_ble_eq_true h1)).2
        exact one hp (by rw [h2]; exact .cons hy .nil) rfl (by simp) hf
      | false =>
        simp only [h1, ifB_f] at hf
        obtain ⟨h2, hf⟩ := ifB_some hf
        obtain ⟨h3, hf⟩ := ifB_some hf
        obtain ⟨cs, h4, h5⟩ := hy.inv7 (beq_of h2)
        exact one hp (by rw [h4]; exact h5) (beq_of h3) (by have := beq_of h3; intro e; rw [e] at this; cases this) hf
    · rename_i off sz _ hp
      obtain ⟨h2, hf⟩ := ifB_some hf
      obtain ⟨h3, hf⟩ := ifB_some hf
      obtain ⟨cs, h4, h5⟩ := hy.inv7 (beq_of h2)
      exact one hp (by rw [h4]; exact h5) (beq_of h3) (by have := beq_of h3; intro e; rw [e] at this; cases this) hf
    · cases hf

theorem places_some : ∀ {fs : List Field}, (fs.all fun f => (szA P f.type).isSome) = true → ∃ places, fs.mapM (fun f => (P.info? f.type).map fun i => (f.offset, i.size)) = some places ∧ ∀ i : Nat, places[i]? = match fs[i]? with | some f => (szA P f.type).map fun s => (f.offset, s) | none => none
  | [], _ => ⟨[], rfl, fun i => by simp⟩
  | f :: fs, h => by
    simp only [List.all_cons, Bool.and_eq_true] at h
    obtain ⟨ps, h1, h2⟩ := places_some h.2
    obtain ⟨s, hs⟩ := Option.isSome_iff_exists.1 h.1
    obtain ⟨inf, h3, h4⟩ := szA_some hs
    refine ⟨(f.offset, inf.size) :: ps, by simp [List.mapM_cons, h3, h1], fun i => ?_⟩
    cases i with
    | zero => simp [hs, h4]
    | succ i => simpa using h2 i

theorem build_ok {ty : TypeId} {parts : Array (Nat × Operand)} {z : List AV} {fs : Array Field} (ho : o.op = .build ty parts) (hz : zeroA P ty = some z) (ht : P.underlying ty = some (.struct fs)) (hs : (fs.toList.all fun f => (szA P f.type).isSome) = true) :
    PlOk P o (buildC z (fillB (fun i => match fs[i]? with | some f => (szA P f.type).map fun s => (f.offset, s) | none => none) parts.toList).f) := by
  intro t h k y r a w N hf hr he
  obtain ⟨v, h1, rfl, i, h2, h3⟩ := run_zero (P := P) (w := w) hz
  obtain ⟨l', us, h4, h5, h6⟩ := fill_ok (r := r) (a := a) parts.toList _ _ v.cells hf (VRs_ofV1 r _) fun p hp => he p.2 (by simp [ho, Op.operands]; exact ⟨p.1, by simpa using hp⟩)
  obtain ⟨ps, h7, h8⟩ := places_some hs
  refine ⟨_, _, h4, PDoes.pure hr (.agg us h6) ?_⟩
  have hb : P.built ty (parts.toList.map fun p => (p.1, a.eval p.2)) = some us := by
    unfold Program.built
    simp only [h2, ht, h3, h7]
    have e : (fun x : Nat => ps.toArray[x]?) = (fun i => match fs[i]? with | some f => (szA P f.type).map fun s => (f.offset, s) | none => none) := by
      funext j
      have := h8 j
      simp only [Array.getElem?_toList] at this
      simpa using this
    rw [e]
    exact h5
  have := run_build w ty (parts.map fun (i, x) => (i, a.eval x)) us (by simpa using hb)
  simp [execOp, ho, this]

theorem buildA_ok {ty e : TypeId} {n s : Nat} {parts : Array (Nat × Operand)} {z : List AV} (ho : o.op = .build ty parts) (hz : zeroA P ty = some z) (ht : P.underlying ty = some (.array n e)) (hs : szA P e = some s) :
    PlOk P o (buildC z (fillB (fun i => some (i * s, s)) parts.toList).f) := by
  intro t h k y r a w N hf hr he
  obtain ⟨v, h1, rfl, i, h2, h3⟩ := run_zero (P := P) (w := w) hz
  obtain ⟨l', us, h4, h5, h6⟩ := fill_ok (r := r) (a := a) parts.toList _ _ v.cells hf (VRs_ofV1 r _) fun p hp => he p.2 (by simp [ho, Op.operands]; exact ⟨p.1, by simpa using hp⟩)
  obtain ⟨ie, h7, h8⟩ := szA_some hs
  refine ⟨_, _, h4, PDoes.pure hr (.agg us h6) ?_⟩
  have hb : P.built ty (parts.toList.map fun p => (p.1, a.eval p.2)) = some us := by
    unfold Program.built
    simp only [h2, ht, h3, h7, h8]
    exact h5
  have := run_build w ty (parts.map fun (i, x) => (i, a.eval x)) us (by simpa using hb)
  simp [execOp, ho, this]

theorem okRow_some {e : TypeId} {s : Nat} (h : okRow P e = true) (hs : szA P e = some s) : ∃ i z, P.info? e = some i ∧ i.size = s ∧ i.zero = some z ∧ z.cells.size = s ∧ s ≤ 100 ∧ i.bytes ≤ 1000 ∧ 1 ≤ s := by
  obtain ⟨i, h1, h2⟩ := szA_some hs
  unfold okRow at h
  rw [infK_eq] at h
  rw [h1] at h
  simp only at h
  cases hz : i.zero with
  | none => rw [hz] at h; cases h
  | some z =>
    rw [hz] at h
    simp only [Bool.and_eq_true] at h
    exact ⟨i, z, h1, h2, hz, by rw [beq_of h.1.1.1, h2], by rw [← h2]; exact Nat.le_of_ble_eq_true h.1.1.2, Nat.le_of_ble_eq_true h.1.2, by rw [← h2]; exact Nat.le_of_ble_eq_true h.2⟩
theorem repV {z : List AV} (n : Nat) : (repA z n).length = n * z.length := by
  induction n with
  | zero => simp [repA]
  | succ n ih => rw [repA, List.length_append, ih, Nat.succ_mul]; omega
theorem rep_get {z : List AV} : ∀ (n j : Nat) (a : AV), (repA z n)[j]? = some a → z[j % z.length]? = some a
  | 0, j, a, h => by simp [repA] at h
  | n + 1, j, a, h => by
    rw [repA] at h
    by_cases hj : j < z.length
    · rw [List.getElem?_append_left hj] at h
      rw [Nat.mod_eq_of_lt hj]
      exact h
    · rw [List.getElem?_append_right (by omega)] at h
      have := rep_get n _ a h
      rw [← Nat.mod_eq_sub_mod (by omega)] at this
      exact this
/-- A row of zero values. -/
theorem rep_VRs {r : Ren} {zv : Array Value} {n : Nat} (hz : 0 < zv.size ∨ n = 0) : VRs r (repA (zv.toList.map ofV1) n) ((Array.range (n * zv.size)).map (fun i => zv[i % zv.size]!)).toList := by
  refine VRs.of_get ?_ fun i a v h1 h2 => ?_
  · rw [repV]; simp
  · have h3 := rep_get _ _ _ h1
    have hi : i < n * zv.size := by
      have := (List.getElem?_eq_some_iff.1 h1).1
      rw [repV] at this
      simpa using this
    simp at h2
    obtain ⟨j, h4, h5⟩ := h2
    rw [List.getElem?_range hi] at h4
    cases h4
    simp at h3
    obtain ⟨u, h6, h7⟩ := h3
    have hlt : i % zv.size < zv.size := by
      rcases hz with hz | hz
      · exact Nat.mod_lt _ hz
      · subst hz; simp at hi
    rw [Array.getElem?_eq_getElem hlt] at h6
    cases h6
    rw [← h7, ← h5, getElem!_pos zv _ hlt]
    exact VR_ofV1 r _

theorem fill_makes {t : Fr} {x : RV} {place : Nat → Option (Nat × Nat)} : ∀ (parts : List (Nat × Operand)) (l : List AV) (k : List AV → R), (fillB place parts).f t l k = some x → ∃ l', k l' = some x
  | [], l, k, hf => ⟨l, hf⟩
  | (i, y) :: rest, l, k, hf => by
    unfold fillB at hf
    split at hf
    · cases h1 : oneCellN ((evB y).f t) with
      | true =>
        simp only [h1, ifB_t] at hf
        exact fill_makes rest _ _ (setK_some hf).2
      | false =>
        simp only [h1, ifB_f] at hf
        exact fill_makes rest _ _ (setK_some (ifB_some (ifB_some hf).2).2).2
    · exact fill_makes rest _ _ (setK_some (ifB_some (ifB_some hf).2).2).2
    · cases hf
theorem buildSlice_ok {ty e : TypeId} {len s : Nat} {parts : Array (Nat × Operand)} {z : List AV} (ho : o.op = .buildSlice ty len parts) (ht : P.underlying ty = some (.slice e)) (hz : zeroA P e = some z) (hs : szA P e = some s) (hk : okRow P e = true) (hl : len ≤ 100000) :
    LateOk P o (buildSliceC (repA z len) e len (fillB (fun i => some (i * s, s)) parts.toList).f) := by
  refine ⟨fun t h k y hf => ?_, fun t h k y r a hf he => ?_⟩
  · obtain ⟨l, hl⟩ := fill_makes _ _ _ hf
    exact ⟨_, _, hl⟩
  obtain ⟨i, zv, k1, k2, k3, k4, k5, k6, k7⟩ := okRow_some hk hs
  obtain ⟨v, -, rfl, i', h2, h3⟩ := run_zero (P := P) (w := { heap := #[], tape := fun _ _ => 0, drawn := 0, os := default, output := #[] }) hz
  rw [k1] at h2; cases h2
  rw [k3] at h3; cases h3
  have hmul : len * s ≤ 100000 * 100 := Nat.mul_le_mul hl k5
  have hz0 : VRs r (repA (zv.cells.toList.map ofV1) len) ((Array.range (len * s)).map (fun x => (if len * s = 0 then #[] else zv.cells)[x % (if len * s = 0 then #[] else zv.cells).size]!)).toList := by
    rcases Nat.eq_zero_or_pos len with h0 | h0
    · subst h0
      simp [repA]
      exact .nil
    · have h0 : ¬ len * s = 0 := Nat.ne_of_gt (Nat.mul_pos h0 k7)
      simp only [if_neg h0]
      have := rep_VRs (r := r) (zv := zv.cells) (n := len) (.inl (by rw [k4]; exact k7))
      rw [k4] at this ⊢
      exact this
  obtain ⟨l', us, h4, h5, h6⟩ := fill_ok (r := r) (a := a) parts.toList _ _ _ hf hz0 fun p hp => he p.2 (by simp [ho, Op.operands]; exact ⟨p.1, by simpa using hp⟩)
  have husz : us.size = len * s := by
    have e1 := h6.length
    have : ∀ (parts : List (Nat × Value)) (zs us : Array Value), Instr.fill (fun i => some (i * s, s)) zs parts = some us → us.size = zs.size := by
      intro parts
      induction parts with
      | nil => intro zs us h; simp [Instr.fill] at h; rw [h]
      | cons p ps ih =>
        intro zs us h
        obtain ⟨i, v⟩ := p
        rw [Instr.fill] at h
        simp only at h
        split at h
        · cases h
        · have := ih _ _ h
          rw [this, fold_over, overV_size]
    rw [this _ _ _ h5]
    simp
  refine ⟨_, _, h4, fun w g hr hn hi hob => ⟨_, _, _, ?_, .slc (Ren.set_same _ _ _) (Nat.le_refl _) (.inr rfl) (.inr rfl) (by simp [husz]) (Nat.le_refl _) (by omega), late_cells hr hn hi hob h6 hs⟩⟩
  obtain ⟨v2, h1, -, i2, h2, h3⟩ := run_zero (P := P) (w := w) hz
  rw [k1] at h2; cases h2
  rw [k3] at h3; cases h3
  have hne : ¬ 2 ^ 24 < len * s := by omega
  have hpr : (parts.map fun (i, x) => (i, a.eval x)).toList = parts.toList.map fun p => (p.1, a.eval p.2) := by simp
  have hz1 : (if len * s = 0 then (Pure.pure #[] : Sem (Array Value)) else do pure (← zeroValue e).cells).run P w = .ok (if len * s = 0 then #[] else zv.cells) w := by
    by_cases h0 : len * s = 0
    · simp [h0]
    · simp only [if_neg h0]
      simp [h1]
  simp only [execOp, ho, Instr.buildSlice, Sem.run_bind, run_underlying ht, Result.andThen_ok, run_size hs, if_neg hne, hpr]
  by_cases h0 : len * s = 0
  · simp only [if_pos h0] at h5 ⊢
    have h5' := h5
    simp at h5'
    simp [h5', newRow]
  · simp only [if_neg h0] at h5 ⊢
    simp [h1, h5, newRow]
end
end Go.Proofs.YtfkdkbekmimhoaaGreatDoor
/- The machine for closed runs: append, slices. -/
namespace Go.Proofs.YtfkdkbekmimhoaaGreatDoor

section
variable {P : Program} {o : Oper} {r : Ren} {h : AH} {w : World}
theorem live_cells (hr : Rel P r h w) {i : Nat} {ob : OB} {p : Pl} (hg : h.get i = some ob) (hk : ob.kind = 0) (hp : r i = some p) : ∃ cur fz, w.heap[p.blk]? = some (.cells cur ob.n fz) ∧ (fz = (0, 0) ∨ cur.size ≤ fz.1) ∧ cur.size = p.sz ∧ p.base + ob.cs.length ≤ p.sz ∧ szA P ob.n = some p.k ∧
    (∀ (j : Nat) (a : AV), ob.cs[j]? = some a → ∃ v, cur[p.base + j]? = some v ∧ VR r a v) := by
  obtain ⟨cur, fz, c1, c2, c3, c4, c5, c6, -⟩ := (hr.live _ _ _ hg hp).cells hk
  exact ⟨cur, fz, c1, c2, c3, c4, c5, c6⟩

/-- The cells of a slice, read; whatever was drawn. -/
theorem row_ok (hr : Rel P r h w) {e s : Nat} {x : AV} {v : Value} {k : List AV → R} {z : RV} (hx : VR r x v) (hs : szA P e = some s) (hf : rowK h e s x k = some z) :
    ∃ l vs, k l = some z ∧ VRs r l vs ∧ l.length = x.d * s ∧ (∃ base c, v = .slice base x.d c ∧ x.d ≤ c) ∧ (∀ w' : World, (∀ b : Nat, w'.heap[b]? = w.heap[b]?) → (Builtin.firstCells s x.d v).run P w' = .ok vs.toArray w') := by
  obtain ⟨h4, hf⟩ := ifB_some hf
  cases h5 : Nat.beq x.d 0 with
  | true =>
    rw [h5, ifB_t] at hf
    have hd := beq_of h5
    refine ⟨[], [], hf, .nil, by simp [hd], ?_, fun w' _ => ?_⟩
    · by_cases ha : x.a = 1
      · obtain ⟨p, o', c', h6, h7, h8, -⟩ := hx.inv4 (beq_of h4) ha
        exact ⟨_, _, h7, h8⟩
      · obtain ⟨h6, h7⟩ := hx.inv4n (beq_of h4) ha
        exact ⟨_, _, by rw [h6, hd], by omega⟩
    · by_cases ha : x.a = 1
      · obtain ⟨p, o', c', h6, h7, h8, -⟩ := hx.inv4 (beq_of h4) ha
        rw [h7, hd]
        simp [Builtin.firstCells, loadCells, loadCellsFrom]
      · obtain ⟨h6, h7⟩ := hx.inv4n (beq_of h4) ha
        rw [h6]
        simp [Builtin.firstCells]
  | false =>
    rw [h5, ifB_f] at hf
    have hd := ne_of_beq h5
    obtain ⟨h6, hf⟩ := ifB_some hf
    obtain ⟨ob, h7, hf⟩ := optK_some hf
    obtain ⟨h8, hf⟩ := ifB_some hf
    obtain ⟨h9, hf⟩ := ifB_some hf
    obtain ⟨hb, hf⟩ := takeK_some hf
    obtain ⟨p, o', c', k1, k2, k3, k4, k5, k6, k7, k8⟩ := hx.inv4 (beq_of h4) (beq_of h6)
    obtain ⟨cur, fz, c1, c2, c3, c4, c5, c6⟩ := live_cells hr h7 (beq_of h8) k1
    have ho := k5.resolve_left hd
    subst ho
    rcases Nat.eq_zero_or_pos s with hs0 | hs0
    · subst hs0
      refine ⟨_, [], hf, by simpa using VRs.nil, by simp, ⟨_, _, k2, k3⟩, fun w' _ => ?_⟩
      rw [k2]
      simp [Builtin.firstCells, loadCells, loadCellsFrom]
    · have hb : x.c + x.d * s ≤ ob.cs.length := hb.resolve_right (fun e => by rcases Nat.mul_eq_zero.1 e with e | e <;> omega)
      refine ⟨_, (cur.toList.drop (p.base + x.c)).take (x.d * s), hf, VRs.of_get ?_ fun i a u g1 g2 => ?_, by simp; omega, ⟨_, _, k2, k3⟩, fun w' hw' => ?_⟩
      · simp
        omega
      · have hi : i < x.d * s := by
          have := (List.getElem?_eq_some_iff.1 g1).1
          simp at this
          omega
        rw [List.getElem?_take, if_pos hi, List.getElem?_drop] at g1 g2
        obtain ⟨v', g3, g4⟩ := c6 _ _ g1
        rw [Array.getElem?_toList, Nat.add_assoc, g3] at g2
        cases g2
        exact g4
      · rw [k2]
        refine run_firstCells_some (w := w') s x.d _ x.d c' _ (by simp; omega) fun j u hu => ?_
        have hj : j < x.d * s := by
          have := (List.getElem?_eq_some_iff.1 hu).1
          simp at this
          omega
        rw [List.getElem?_take, if_pos hj, List.getElem?_drop, Array.getElem?_toList] at hu
        rw [addr_add, cell_of ((hw' p.blk).trans c1)]
        exact hu
theorem live_one {l : List AV} {vs : List Value} (hl : VRs r l vs) (h1 : l.all oneCellN = true) : ∀ v ∈ vs, v.oneCell' = true := by
  intro v hv
  obtain ⟨i, hi⟩ := List.getElem?_of_mem hv
  have hlt := (List.getElem?_eq_some_iff.1 hi).1
  rw [← hl.length] at hlt
  obtain ⟨v', h2, h3⟩ := hl.get (List.getElem?_eq_getElem hlt)
  rw [hi] at h2
  cases h2
  exact (h3.one (Nat.le_of_ble_eq_true (List.all_eq_true.1 h1 _ (List.getElem_mem hlt)))).1

theorem grown_ge (need old : Nat) (e : TypeId) : need ≤ grownCap w need old e := grownCap_ge w need old e

/-- Behind an append that makes a new row. -/
theorem grow_post (hr : Rel P r h w) {e s : Nat} {l : List AV} {vs : List Value} {zc : Array Value} {c n : Nat} (hs : szA P e = some s) (hl : VRs r l vs) (hn : l.length = n * s) (hc : n ≤ c) (hz : zc.size = (c - n) * s) (hm : c ≤ 9223372036854775807) :
    ∃ r', Post P r h w r' (h.new (.arr l e)) (w.drew.alloc (.cells (vs.toArray ++ zc) e)) ∧ VR r' (.slc h.next 0 n capU) (.slice (some ⟨w.heap.size, 0, none⟩) n c) := by
  have h1 := Post.drew hr
  have hlen := hl.length
  have hsz : (vs.toArray ++ zc).size = c * s := by
    simp [hz, ← hlen, hn]
    rw [← Nat.add_mul]
    congr 1
    omega
  have hp : Post P r h w.drew (r.set h.next ⟨w.heap.size, 0, c * s, s⟩) (h.new (.arr l e)) (w.drew.alloc (.cells (vs.toArray ++ zc) e)) := by
    refine Post.alloc h1.rel rfl (.arr (heap_push_new w.drew _) (.inl rfl) hsz ?_ hs fun j a ha => ?_)
    · simp [hn]
      exact Nat.mul_le_mul_right _ hc
    · obtain ⟨v, g1, g2⟩ := hl.get ha
      have hj := (List.getElem?_eq_some_iff.1 g1).1
      refine ⟨v, ?_, g2.mono (r.le_set _ hr.fresh)⟩
      simp only [Nat.zero_add]
      rw [Array.getElem?_append_left (by simpa using hj)]
      simpa using g1
  exact ⟨_, h1.trans hp, .slc (Ren.set_same _ _ _) hc (.inl rfl) (.inr rfl) (by simp) (Nat.le_refl _) hm⟩

theorem append_ok {c : Call} {x y : Operand} {tx ty e e' s : Nat} (ho : o.op = .call c) (hc : c.callee = .builtin .append) (ha : c.args = #[x, y]) (hat : c.argTypes = #[tx, ty]) (htx : P.underlying tx = some (.slice e)) (hty : P.underlying ty = some (.slice e')) (hs : szA P e = some s) (hk : okRow P e = true) : OpOk P o (appendC (evB x).f (evB y).f e s) := by
  intro t h k z r a w hf hr he
  have hx := he x (by simp [ho, Op.operands, Call.operands, ha, hc])
  have hy := he y (by simp [ho, Op.operands, Call.operands, ha, hc])
  obtain ⟨i, zv, k1, k2, k3, k4, k5, k6, k7⟩ := okRow_some hk hs
  have hrun : ∀ (v : Value) (w' : World), (Builtin.append_ #[tx, ty] o.type #[a.eval x, a.eval y]).run P w = .ok v w' → (execOp a.eval o).run P w = .ok (.value v) w' := fun v w' hv => by
    simp [execOp, ho, resolve, hc, ha, hat, invoke, builtin, hv]
  obtain ⟨h4, hf⟩ := ifB_some hf
  obtain ⟨new, nvs, hf, n1, n2, ⟨nb, nc, n3, n3'⟩, n4⟩ := row_ok hr hy hs hf
  obtain ⟨hone, hf⟩ := ifB_some hf
  have hone := live_one n1 hone
  have hnl := n1.length
  have src : Src P i.size ty (a.eval y) ((evB y).f t).d nvs w := by
    refine ⟨.inl ⟨_, hty⟩, fun w' => by rw [n3]; simp [Builtin.lenOf], ?_, ?_, by rw [← hnl, n2, k2], hone⟩
    · rw [k2]; exact n4 w fun _ => rfl
    · rw [k2]; exact n4 w.drew fun _ => rfl
  unfold appendK at hf
  cases h0 : Nat.beq ((evB y).f t).d 0 with
  | true =>
    -- nothing is appended
    rw [h0, ifB_t] at hf
    have hd := beq_of h0
    rw [hd] at src n2
    have hnv : nvs = [] := by
      apply List.eq_nil_of_length_eq_zero
      rw [← hnl, n2]
      simp
    subst hnv
    refine ⟨_, _, hf, r, w, _, .inl (hrun _ _ ?_), hx, Post.refl hr⟩
    by_cases hxa : ((evB x).f t).a = 1
    · obtain ⟨p, o', c', q1, q2, q3, -⟩ := hx.inv4 (beq_of h4) hxa
      rw [q2]
      have := src.len w
      simp [Builtin.append_, run_underlying htx, run_underlying hty, run_size hs, this, q3, k2 ▸ src.cells, storeCells]
    · obtain ⟨q1, q2⟩ := hx.inv4n (beq_of h4) hxa
      rw [q1]
      have := src.len w
      simp [Builtin.append_, run_underlying htx, run_underlying hty, run_size hs, this, k2 ▸ src.cells]
  | false =>
    rw [h0, ifB_f] at hf
    have hd := ne_of_beq h0
    obtain ⟨hbig, hf⟩ := ifB_some hf
    have hbig := Nat.le_of_ble_eq_true hbig
    have fits : ∀ {need old : Nat}, old < need → need ≤ 1000000 → Builtin.nextslicecap need old * i.bytes ≤ 281474976710656 := fun h1 h2 => growslice_fits h1 (by
      have := Nat.mul_le_mul h2 k6
      omega)
    have zcs : ∀ n : Nat, (Builtin.zeroCells zv.cells n).size = n * s := fun n => by simp [Builtin.zeroCells, k4]
    cases h1 : Nat.beq ((evB x).f t).a 0 with
    | true =>
      rw [h1, ifB_t] at hf
      obtain ⟨q1, q2⟩ := hx.inv4n (beq_of h4) (by rw [beq_of h1]; decide)
      have hd0 : ((evB x).f t).d = 0 := by rw [q2]; rfl
      rw [hd0, Nat.zero_add] at hbig
      have hap := run_append_grow_src (P := P) w tx ty o.type e i zv htx k1 k3 none 0 0 [] (by simp [Builtin.firstCells]) (a.eval y) _ nvs src (by omega) (by omega) (fits (by omega) (by omega))
      rw [Nat.zero_add, List.nil_append] at hap
      obtain ⟨r', p1, p2⟩ := grow_post (h := h) hr hs n1 n2 (grown_ge (w := w) ((evB y).f t).d 0 e) (zcs _) (grownCap_le_maxLen w _ _ _ (by simp only [maxLen]; omega))
      refine ⟨_, _, hf, r', _, _, .inl (hrun _ _ ?_), p2, p1⟩
      rw [q1]
      exact hap
    | false =>
      rw [h1, ifB_f] at hf
      obtain ⟨old, ovs, hf, o1, o2, ⟨ob, oc, o3, o3'⟩, o4⟩ := row_ok hr hx hs hf
      by_cases hxa : ((evB x).f t).a = 1
      · obtain ⟨p, o', c', q1, q2, q3, q4, q5, q6, q7, q8⟩ := hx.inv4 (beq_of h4) hxa
        have olen := o1.length
        have grow : c' < ((evB x).f t).d + ((evB y).f t).d → ∃ r', Post P r h w r' (h.new (.arr (old ++ new) e)) (w.drew.alloc (.cells ((ovs ++ nvs).toArray ++ Builtin.zeroCells zv.cells (grownCap w (((evB x).f t).d + ((evB y).f t).d) c' e - (((evB x).f t).d + ((evB y).f t).d))) e)) ∧
            VR r' (.slc h.next 0 (((evB x).f t).d + ((evB y).f t).d) capU) (.slice (some ⟨w.heap.size, 0, none⟩) (((evB x).f t).d + ((evB y).f t).d) (grownCap w (((evB x).f t).d + ((evB y).f t).d) c' e)) ∧
            (execOp a.eval o).run P w = .ok (.value (.slice (some ⟨w.heap.size, 0, none⟩) (((evB x).f t).d + ((evB y).f t).d) (grownCap w (((evB x).f t).d + ((evB y).f t).d) c' e))) (w.drew.alloc (.cells ((ovs ++ nvs).toArray ++ Builtin.zeroCells zv.cells (grownCap w (((evB x).f t).d + ((evB y).f t).d) c' e - (((evB x).f t).d + ((evB y).f t).d))) e)) := by
          intro hg
          have hap := run_append_grow_src (P := P) w tx ty o.type e i zv htx k1 k3 (some ⟨p.blk, o', none⟩) ((evB x).f t).d c' ovs (by have := o4 w.drew fun _ => rfl; rw [q2] at this; rw [k2]; exact this) (a.eval y) _ nvs src hg (by omega) (fits hg hbig)
          obtain ⟨r', p1, p2⟩ := grow_post (h := h) hr hs (o1.append n1) (n := ((evB x).f t).d + ((evB y).f t).d) (by rw [List.length_append, o2, n2, Nat.add_mul]) (grown_ge (w := w) _ c' e) (zcs _) (grownCap_le_maxLen w _ _ _ (by simp only [maxLen]; omega))
          exact ⟨r', p1, p2, hrun _ _ (by rw [q2]; exact hap)⟩
        cases h2 : Nat.ble (((evB x).f t).d + ((evB y).f t).d) ((evB x).f t).e with
        | false =>
          rw [h2, ifB_f] at hf
          have hlt : ¬ ((evB x).f t).d + ((evB y).f t).d ≤ ((evB x).f t).e := fun e => by rw [Nat.ble_eq_true_of_le e] at h2; cases h2
          have hcap : ((evB x).f t).e = c' := q4.resolve_left fun e => by rw [e] at hlt; simp only [capU] at hlt; omega
          obtain ⟨r', p1, p2, p3⟩ := grow (by omega)
          exact ⟨_, _, hf, r', _, _, .inl p3, p2, p1⟩
        | true =>
          rw [h2, ifB_t] at hf
          obtain ⟨obj, g1, hf⟩ := optK_some hf
          obtain ⟨g2, hf⟩ := ifB_some hf
          obtain ⟨g3, hf⟩ := ifB_some hf
          have g3 := beq_of g3
          obtain ⟨cur, fz, c1, c2, c3, c4, c5, c6⟩ := live_cells hr g1 (beq_of g2) q1
          have hlt : p.blk < w.heap.size := (Array.getElem?_eq_some_iff.1 c1).1
          rw [g3] at c5
          have hpk : p.k = s := by rw [c5] at hs; exact Option.some.inj hs
          by_cases hroom : ((evB x).f t).d + ((evB y).f t).d ≤ c'
          · -- it lies where it lay
            have hb : o' + ((evB x).f t).d * s + nvs.length ≤ cur.size := by
              rw [← hnl, n2, c3]
              have := Nat.mul_le_mul_right s hroom
              rw [Nat.add_mul] at this
              rw [hpk] at q6
              omega
            have hstore := run_storeK (P := P) (e := obj.n) (fz := fz) hlt nvs cur (o' + ((evB x).f t).d * s) 0 c2 (by simpa using hb) hone
            rw [wcells_self c1, Nat.add_zero] at hstore
            refine ⟨_, _, hf, _, _, _, .inl (hrun (.slice (some ⟨p.blk, o', none⟩) (((evB x).f t).d + ((evB y).f t).d) c') _ ?_), ?_, Post.move (q := ⟨p.blk, o', p.sz, p.k⟩) (w' := wcells w p.blk (overV cur (o' + ((evB x).f t).d * s) nvs) obj.n fz) hr g1 q1 (.inl rfl) (by rw [wcells_size]; exact hlt) (by rw [wcells_size]; exact Nat.le_refl _) (fun b _ hb => wcells_ne _ _ _ hb) ?_ rfl rfl rfl⟩
            · rw [q2]
              have hl := src.len w
              simp [Builtin.append_, run_underlying htx, run_underlying hty, run_size hs, hl, hroom, k2 ▸ src.cells, addr_add, hstore]
            · refine .slc (p := ⟨p.blk, o', p.sz, p.k⟩) (Ren.set_same _ _ _) hroom ?_ (.inr rfl) q6 (Nat.le_refl _) q8
              rcases q4 with q4 | q4
              · exact .inl q4
              · exact .inr q4
            · rw [← g3]
              refine .arr (wcells_get _ _ _ hlt) (by rw [overV_size]; exact c2) (by rw [overV_size]; exact c3) ?_ (by rw [g3]; exact c5) fun j av hj => ?_
              · simp only [List.length_append, o2, n2]
                have := Nat.mul_le_mul_right s hroom
                rw [Nat.add_mul] at this
                rw [hpk] at q6
                omega
              · have hle := r.le_set (⟨p.blk, o', p.sz, p.k⟩ : Pl) hr.fresh
                show ∃ v, (overV cur (o' + ((evB x).f t).d * s) nvs)[o' + j]? = some v ∧ _
                rw [overV_get _ _ _ _ hb]
                by_cases hjo : j < old.length
                · rw [List.getElem?_append_left hjo] at hj
                  rw [o2] at hjo
                  rw [if_neg (by omega)]
                  obtain ⟨v, g4, g5⟩ := o1.get hj
                  refine ⟨v, ?_, g5.mono hle⟩
                  have h5 := o4 w fun _ => rfl
                  rw [q2] at h5
                  have h6 : (Builtin.firstCells s ((evB x).f t).d (.slice (some ⟨p.blk, o', none⟩) ((evB x).f t).d c')).run P w = .ok ((cur.toList.drop o').take (((evB x).f t).d * s)).toArray w := by
                    refine run_firstCells_some (w := w) s _ _ _ c' _ (by simp; omega) fun j u hu => ?_
                    have hj : j < ((evB x).f t).d * s := by
                      have := (List.getElem?_eq_some_iff.1 hu).1
                      simp at this
                      omega
                    rw [List.getElem?_take, if_pos hj, List.getElem?_drop, Array.getElem?_toList] at hu
                    rw [addr_add, cell_of c1]
                    exact hu
                  rw [h5] at h6
                  have h7 : ovs = (cur.toList.drop o').take (((evB x).f t).d * s) := by
                    have := (Result.ok.inj h6).1
                    simpa using congrArg Array.toList this
                  rw [h7, List.getElem?_take, if_pos hjo, List.getElem?_drop, Array.getElem?_toList] at g4
                  exact g4
                · rw [List.getElem?_append_right (by omega)] at hj
                  obtain ⟨v, g4, g5⟩ := n1.get hj
                  have hjl := (List.getElem?_eq_some_iff.1 g4).1
                  rw [if_pos (by omega)]
                  exact ⟨v, by rw [← g4]; congr 1; omega, g5.mono hle⟩
          · -- there is no room: it is new, and what is known of the old one is given up
            have hcap : ((evB x).f t).e = capU := q4.resolve_right fun e => by
              have := Nat.le_of_ble_eq_true h2
              omega
            have hdr := Post.drop hr ((evB x).f t).b q1
            obtain ⟨r', p1, p2⟩ := grow_post (h := h.put ((evB x).f t).b none) hdr.rel hs (o1.append n1) (n := ((evB x).f t).d + ((evB y).f t).d) (by rw [List.length_append, o2, n2, Nat.add_mul]) (grown_ge (w := w) _ c' e) (zcs _) (grownCap_le_maxLen w _ _ _ (by simp only [maxLen]; omega))
            obtain ⟨-, -, -, p3⟩ := grow (by omega)
            rw [hcap] at hf
            exact ⟨_, _, hf, r', _, _, .inl p3, p2, hdr.trans p1⟩
      · obtain ⟨q1, q2⟩ := hx.inv4n (beq_of h4) hxa
        rw [q2] at h1
        cases h1
end
end Go.Proofs.YtfkdkbekmimhoaaGreatDoor
/- The machine for closed runs: slices, strings, functions, conversions. -/
namespace Go.Proofs.YtfkdkbekmimhoaaGreatDoor

section
variable {P : Program} {o : Oper}
/-- A bound, as the machine and the model read it. -/
theorem bound_ok {r : Ren} {t : Fr} {a : Act} {x : Option Operand} {d : Nat} {k : Nat → R} {z : RV} (hf : (boundB x).f t d k = some z) (he : ∀ y, x = some y → VR r ((evB y).f t) (a.eval y)) :
    ∃ n : Nat, k n = some z ∧ (x.map a.eval = none ∧ n = d ∨ ∃ kd, x.map a.eval = some (.int kd (n : Int))) := by
  cases x with
  | none => exact ⟨d, hf, .inl ⟨rfl, rfl⟩⟩
  | some y =>
    obtain ⟨h1, hf⟩ := ifB_some hf
    obtain ⟨n, h2, hf⟩ := natK_some hf
    obtain ⟨kd, h3, -⟩ := (he y rfl).inv0 (beq_of h1)
    exact ⟨n, hf, .inr ⟨kd, by rw [Option.map_some, h3, h2]⟩⟩
theorem run_bound {w : World} {v : Value} {kd : IntKind} {n m : Nat} {code : BoundsCode} (h : v = .int kd (n : Int)) (hn : n ≤ m) : (Instr.sliceBound v m code).run P w = .ok n w := by
  subst h
  have : (n : Int) ≤ (m : Int) := by omega
  simp [Instr.sliceBound, asIntOf, this]
/-- The bounds of a slice. -/
theorem run_bounds {w : World} {b : Bool} {len cap l n m : Nat} {lo hi mx : Option Value} (h1 : lo = none ∧ l = 0 ∨ ∃ kd, lo = some (.int kd (l : Int))) (h2 : hi = none ∧ n = len ∨ ∃ kd, hi = some (.int kd (n : Int)))
    (h3 : mx = none ∧ m = cap ∨ ∃ kd, mx = some (.int kd (m : Int))) (h4 : mx ≠ none → hi ≠ none) (hl : l ≤ n) (hn : n ≤ m) (hm : m ≤ cap) : (Instr.sliceBounds b len cap lo hi mx).run P w = .ok (l, n, m) w := by
  have low : ∀ c : Nat → BoundsCode, ((match lo with | some v => Instr.sliceBound v n (c 0) | none => Pure.pure 0 : Sem Nat)).run P w = .ok l w := fun c => by
    rcases h1 with ⟨rfl, rfl⟩ | ⟨kd, rfl⟩
    · rfl
    · exact run_bound rfl hl
  unfold Instr.sliceBounds
  rcases h3 with ⟨rfl, rfl⟩ | ⟨k3, rfl⟩
  · rcases h2 with ⟨rfl, rfl⟩ | ⟨k2, rfl⟩ <;> rcases h1 with ⟨rfl, rfl⟩ | ⟨k1, rfl⟩ <;> simp [run_bound (P := P) (w := w) rfl hl, run_bound (P := P) (w := w) rfl hn]
  · rcases h2 with ⟨rfl, rfl⟩ | ⟨k2, rfl⟩
    · exact absurd rfl (h4 (by simp))
    · rcases h1 with ⟨rfl, rfl⟩ | ⟨k1, rfl⟩ <;> simp [run_bound (P := P) (w := w) rfl hl, run_bound (P := P) (w := w) rfl hn, run_bound (P := P) (w := w) rfl hm]

theorem slice_ok {ty e : TypeId} {x : Operand} {lo hi mx : Option Operand} {s : Nat} (ho : o.op = .slice ty x lo hi mx) (ht : P.underlying ty = some (.slice e)) (hs : szA P e = some s) (hmx : mx.isSome = true → hi.isSome = true) : PlOk P o (sliceC (evB x).f e s (boundB lo).f (boundB hi).f (boundB mx).f mx.isSome) := by
  intro t h k z r a w N hf hr he
  have hx := he x (by simp [ho, Op.operands])
  obtain ⟨h4, hf⟩ := ifB_some hf
  obtain ⟨l, hf, hl⟩ := bound_ok (r := r) (a := a) hf fun y hy => he y (by simp [ho, Op.operands, hy])
  obtain ⟨n, hf, hn⟩ := bound_ok (r := r) (a := a) hf fun y hy => he y (by simp [ho, Op.operands, hy])
  obtain ⟨m, hf, hm⟩ := bound_ok (r := r) (a := a) hf fun y hy => he y (by simp [ho, Op.operands, hy])
  obtain ⟨b1, hf⟩ := ifB_some hf
  obtain ⟨b2, hf⟩ := ifB_some hf
  obtain ⟨b3, hf⟩ := ifB_some hf
  have b1 := Nat.le_of_ble_eq_true b1
  have b2 := Nat.le_of_ble_eq_true b2
  have b3 := Nat.le_of_ble_eq_true b3
  have hmx' : (mx.map a.eval) ≠ none → (hi.map a.eval) ≠ none := fun h e => by
    cases mx with
    | none => exact h rfl
    | some y =>
      have := hmx rfl
      cases hi with
      | none => cases this
      | some _ => cases e
  cases h5 : Nat.beq ((evB x).f t).a 0 with
  | true =>
    rw [h5, ifB_t] at hf
    obtain ⟨q1, q2⟩ := hx.inv4n (beq_of h4) (by rw [beq_of h5]; decide)
    have hd : ((evB x).f t).d = 0 := by rw [q2]; rfl
    rw [hd] at b3 hm hn
    refine ⟨_, _, hf, PDoes.pure hr .snil ?_⟩
    have hb := run_bounds (P := P) (w := w) (b := true) (len := 0) (cap := 0) hl hn hm hmx' b1 b2 b3
    obtain ⟨e1, e2, e3⟩ : m = 0 ∧ n = 0 ∧ l = 0 := ⟨by omega, by omega, by omega⟩
    rw [e1, e2, e3] at hb
    simp [execOp, ho, q1, Instr.sliceAt, Instr.slice, run_underlying ht, hb, run_size hs]
  | false =>
    rw [h5, ifB_f] at hf
    by_cases h6 : ((evB x).f t).a = 1
    · obtain ⟨p, o', c', q1, q2, q3, q4, q5, q6, q7, q8⟩ := hx.inv4 (beq_of h4) h6
      -- the elements' size
      have hrow : k (.slc ((evB x).f t).b (((evB x).f t).c + l * s) (n - l) (ifB mx.isSome (m - l) (ifB (Nat.beq ((evB x).f t).e capU) capU (((evB x).f t).e - l)))) h = some z ∧ (l = 0 ∨ p.k = s) := by
        unfold isRow at hf
        cases h7 : Nat.beq l 0 with
        | true => rw [h7, ifB_t] at hf; exact ⟨hf, .inl (beq_of h7)⟩
        | false =>
          rw [h7, ifB_f] at hf
          obtain ⟨ob, g1, hf⟩ := optK_some hf
          obtain ⟨g2, hf⟩ := ifB_some hf
          obtain ⟨g3, hf⟩ := ifB_some hf
          obtain ⟨cur, fz, c1, c2, c3, c4, c5, c6⟩ := live_cells hr g1 (beq_of g2) q1
          rw [beq_of g3, hs] at c5
          exact ⟨hf, .inr (Option.some.inj c5).symm⟩
      obtain ⟨hf, hk⟩ := hrow
      -- the capacity's bound
      obtain ⟨M, hM, hM2, hM3, hM4⟩ : ∃ M, ((mx.map a.eval = none ∧ M = c') ∨ ∃ kd, mx.map a.eval = some (.int kd (M : Int))) ∧ n ≤ M ∧ M ≤ c' ∧ ((mx.isSome = true ∧ M = m) ∨ (mx.isSome = false ∧ M = c')) := by
        cases mx with
        | none => exact ⟨c', .inl ⟨rfl, rfl⟩, by omega, Nat.le_refl _, .inr ⟨rfl, rfl⟩⟩
        | some y =>
          rcases hm with ⟨e, -⟩ | e
          · cases e
          · exact ⟨m, .inr e, b2, by omega, .inl ⟨rfl, rfl⟩⟩
      have hb := run_bounds (P := P) (w := w) (b := true) (len := ((evB x).f t).d) (cap := c') hl hn hM hmx' b1 hM2 hM3
      refine ⟨_, _, hf, PDoes.pure hr (v' := .slice (if M = l then some ⟨p.blk, o', none⟩ else some ⟨p.blk, o' + l * s, none⟩) (n - l) (M - l)) ?_ ?_⟩
      · have hcap : ifB mx.isSome (m - l) (ifB (Nat.beq ((evB x).f t).e capU) capU (((evB x).f t).e - l)) = capU ∨ ifB mx.isSome (m - l) (ifB (Nat.beq ((evB x).f t).e capU) capU (((evB x).f t).e - l)) = M - l := by
          rcases hM4 with ⟨e, rfl⟩ | ⟨e, rfl⟩ <;> rw [e]
          · exact .inr rfl
          · rw [ifB_f]
            rcases q4 with q4 | q4
            · rw [q4, Nat.beq_refl]; exact .inl rfl
            · cases hb : Nat.beq ((evB x).f t).e capU with
              | true => exact .inl rfl
              | false => exact .inr (by rw [ifB_f, q4])
        by_cases hML : M = l
        · rw [if_pos hML]
          exact .slc q1 (by omega) hcap (.inl (by omega)) (by rw [hML, Nat.sub_self, Nat.zero_mul]; omega) q7 (by omega)
        · rw [if_neg hML]
          refine .slc q1 (by omega) hcap ?_ ?_ (by omega) (by omega)
          · rcases q5 with q5 | q5
            · exact .inl (by omega)
            · exact .inr (by omega)
          · rcases hk with rfl | rfl
            · rw [Nat.zero_mul, Nat.sub_zero]
              have := Nat.mul_le_mul_right p.k hM3
              omega
            · have h1 : l * p.k + (M - l) * p.k = M * p.k := by rw [← Nat.add_mul]; congr 1; omega
              have := Nat.mul_le_mul_right p.k hM3
              omega
      · simp only [execOp, ho, q2, Instr.sliceAt, Instr.slice, Sem.run_bind, run_underlying ht, Result.andThen_ok, hb, run_size hs, Sem.run_pure, Option.map_some, addr_add]
    · obtain ⟨q1, q2⟩ := hx.inv4n (beq_of h4) h6
      rw [q2] at h5
      cases h5

theorem sstr_ok {ty : TypeId} {x : Operand} {lo hi : Option Operand} (ho : o.op = .slice ty x lo hi none) (ht : P.underlying ty = some .string) : PlOk P o (sstrC (evB x).f (boundB lo).f (boundB hi).f) := by
  intro t h k z r a w N hf hr he
  have hx := he x (by simp [ho, Op.operands])
  obtain ⟨h4, hf⟩ := ifB_some hf
  obtain ⟨l, hf, hl⟩ := bound_ok (r := r) (a := a) hf fun y hy => he y (by simp [ho, Op.operands, hy])
  obtain ⟨n, hf, hn⟩ := bound_ok (r := r) (a := a) hf fun y hy => he y (by simp [ho, Op.operands, hy])
  obtain ⟨b1, hf⟩ := ifB_some hf
  obtain ⟨b2, hf⟩ := ifB_some hf
  have b1 := Nat.le_of_ble_eq_true b1
  have b2 := Nat.le_of_ble_eq_true b2
  obtain ⟨s, q1, q2⟩ := hx.inv2 (beq_of h4)
  have hsz : ((evB x).f t).s.length = s.size := by rw [q2]; rfl
  rw [hsz] at hn b2
  have hb := run_bounds (P := P) (w := w) (b := false) (len := s.size) (cap := s.size) (mx := none) hl hn (.inl ⟨rfl, rfl⟩) (by simp) b1 b2 (Nat.le_refl _)
  refine ⟨_, _, hf, PDoes.pure hr (v' := .string (s.extract l n)) ?_ ?_⟩
  · have := VR.str (r := r) (s.extract l n)
    have e : (s.extract l n).data.toList = (((evB x).f t).s.drop l).take (n - l) := by
      rw [q2]
      simp [ByteArray.data_extract, Array.toList_extract, List.extract]
    rw [← e]
    exact this
  · simp [execOp, ho, q1, Instr.sliceAt, Instr.slice, run_underlying ht, hb]

theorem evs_ok {r : Ren} {t : Fr} {a : Act} : ∀ {xs : List Operand}, EvOk r t a xs → VRs r ((evsB xs).f t) (xs.map a.eval)
  | [], _ => .nil
  | x :: xs, h => .cons (h x (by simp)) (evs_ok fun y hy => h y (by simp [hy]))

theorem makeFunc_ok {f : Nat} {first cap : Array Operand} (ho : o.op = .makeFunc (.func f) first cap) : PlOk P o (fun t h k => k (.fn f first.size ((evsB (first.toList ++ cap.toList)).f t)) h) := by
  intro t h k z r a w N hf hr he
  have hl := evs_ok (r := r) (t := t) (a := a) (xs := first.toList ++ cap.toList) fun x hx => he x (by simpa [ho, Op.operands] using hx)
  refine ⟨_, _, hf, PDoes.pure hr (v' := .func (.func f) (first.map a.eval) (cap.map a.eval)) ?_ (by simp [execOp, ho, Instr.makeFunc])⟩
  have := VR.fn (r := r) f (first.map a.eval) (cap.map a.eval) (l := (evsB (first.toList ++ cap.toList)).f t) (by simpa using hl)
  simpa using this

theorem map_late {r : Ren} {g : AH} {w : World} {i : Nat} (hr : Rel P r g w) (hn : r i = none) (hi : i < g.next) (hob : ∀ o', g.get i = some o' → o' = .map [] 0) : LPost P r g w i (r.set i ⟨w.heap.size, 0, 0, 0⟩) (w.alloc (.map #[] 0)) :=
  LPost.alloc hr hn hi hob rfl (.map (heap_push_new w _) .nil (by simp))
theorem makeMap_ok {ty : TypeId} (ho : o.op = .makeMap ty none) : LateOk P o (fun _ h k => k (.map h.next) (h.new (.map [] 0))) := by
  refine ⟨fun t h k y hf => ⟨_, _, hf⟩, fun t h k y r a hf he => ⟨_, _, hf, fun w g hr hn hi hob => ?_⟩⟩
  exact ⟨_, _, _, by simp [execOp, ho, Instr.makeMap], .map (p := ⟨w.heap.size, 0, 0, 0⟩) (Ren.set_same _ _ _), map_late hr hn hi hob⟩
theorem makeMap2_ok {ty kt e : TypeId} {x : Operand} (ho : o.op = .makeMap ty (some x)) (ht : P.underlying ty = some (.map kt e)) : LateOk P o (fun t h k => ifB (Nat.beq ((evB x).f t).tag 0) (k (.map h.next) (h.new (.map [] 0))) none) := by
  refine ⟨fun t h k y hf => ⟨_, _, (ifB_some hf).2⟩, fun t h k y r a hf he => ?_⟩
  obtain ⟨h1, hf⟩ := ifB_some hf
  obtain ⟨kd, h2, -⟩ := (he x (by simp [ho, Op.operands])).inv0 (beq_of h1)
  exact ⟨_, _, hf, fun w g hr hn hi hob => ⟨_, _, _, by simp [execOp, ho, Instr.makeMap, h2, run_underlying ht, asInt, asIntOf], .map (p := ⟨w.heap.size, 0, 0, 0⟩) (Ren.set_same _ _ _), map_late hr hn hi hob⟩⟩
end
end Go.Proofs.YtfkdkbekmimhoaaGreatDoor
