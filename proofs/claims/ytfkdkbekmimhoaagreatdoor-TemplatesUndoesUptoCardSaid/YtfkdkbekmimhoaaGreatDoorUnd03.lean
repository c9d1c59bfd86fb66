/- TemplatesUndoes: an edit, and then the edit that undoes it, gives the tree. Part 3 of 14. -/
import Derived.Test.YtfkdkbekmimhoaaGreatDoorUnd02
import Derived.RangeFuncLeaves
import Derived.OrdersIn
/- The machine for closed runs: maps; bytes of strings; new rows. -/
namespace Go.Proofs.YtfkdkbekmimhoaaGreatDoor

section
variable {P : Program} {o : Oper} {r : Ren} {kd : TypeDesc} {T : Nat}
theorem bytes_beq (s q : ByteArray) : (s == q) = true ↔ s = q := by
  cases s with
  | mk a => cases q with
    | mk b =>
      show (a == b) = true ↔ _
      rw [beq_iff_eq]
      constructor
      · intro h; rw [h]
      · intro h; cases h; rfl
theorem key_ok {x y : AV} {u v : Value} {k : Bool → R} {z : RV} (hT : keyTag (some kd) = some T) (hx : VR r x u) (hy : VR r y v) (ht : x.tag = T) (hf : keyEq x y k = some z) : ∃ b, k b = some z ∧ Instr.sameNow kd u v = some b ∧ (b = true → v = u) := by
  obtain ⟨h1, hf⟩ := ifB_some hf
  have h1 := beq_of h1
  cases h2 : Nat.beq x.a y.a with
  | false =>
    rw [h2, ifB_f] at hf
    obtain ⟨h3, hf⟩ := ifB_some hf
    have h3 := beq_of h3
    unfold keyTag at hT
    split at hT <;> cases hT <;> omega
  | true =>
    rw [h2, ifB_t] at hf
    have h2 := beq_of h2
    unfold keyTag at hT
    split at hT
    · rename_i hkd
      cases hT
      cases hkd
      rw [ht, show Nat.beq 0 0 = true from rfl, ifB_t] at hf
      obtain ⟨k1, h4, h5⟩ := hx.inv0 ht
      obtain ⟨k2, h6, h7⟩ := hy.inv0 (h1.symm.trans ht)
      have := kindN_inj (h5.symm.trans (h2.trans h7))
      subst this
      refine ⟨_, hf, ?_, fun hb => ?_⟩
      · rw [h4, h6]
        simp [Instr.sameNow, intEq_eq]
      · rw [intEq_eq] at hb
        have : x.i = y.i := by simpa using hb
        rw [h4, h6, this]
    · rename_i hkd
      cases hT
      cases hkd
      rw [ht, show Nat.beq 2 0 = false from rfl, ifB_f, show Nat.beq 2 2 = true from rfl, ifB_t] at hf
      obtain ⟨s, h4, h5⟩ := hx.inv2 ht
      obtain ⟨q, h6, h7⟩ := hy.inv2 (h1.symm.trans ht)
      have e : s = q ↔ strEq x.s y.s = true := by
        rw [strEq_iff, h5, h7]
        constructor
        · intro h; rw [h]
        · intro h
          cases s; cases q
          simp at h
          rw [h]
      refine ⟨_, hf, ?_, fun hb => ?_⟩
      · rw [h4, h6]
        show some (s == q) = some _
        rw [Option.some.injEq, Bool.eq_iff_iff, bytes_beq]
        exact e
      · rw [h4, h6, e.2 hb]
    · cases hT
theorem find_ok {key : AV} {kv : Value} {x : RV} (hT : keyTag (some kd) = some T) (hk : VR r key kv) (ht : key.tag = T) {no : R} {yes : AV → R} {es : List ME} {Es : List MapEntry} (i : Nat) (hf : findK key es no yes = some x) (h : MEs r es Es) :
    (no = some x ∧ Instr.findNow kd kv Es i = some none) ∨ (∃ j e E, yes e.val = some x ∧ es[j]? = some e ∧ Es[j]? = some E ∧ Instr.findNow kd kv Es i = some (some (i + j, E.val)) ∧ VR r e.val E.val) := by
  induction h generalizing i with
  | nil => exact .inl ⟨hf, rfl⟩
  | @cons e E l L hk' hv hb tl ih =>
    obtain ⟨b, h1, h2, h3⟩ := key_ok hT hk hk' ht hf
    cases b with
    | true => exact .inr ⟨0, e, E, h1, rfl, rfl, by simp [Instr.findNow, h2], hv⟩
    | false =>
      rcases ih (i + 1) h1 with ⟨h4, h5⟩ | ⟨j, e', E', h4, h5, h6, h7, h8⟩
      · exact .inl ⟨h4, by simp [Instr.findNow, h2, h5]⟩
      · exact .inr ⟨j + 1, e', E', h4, by simpa using h5, by simpa using h6, by simp only [Instr.findNow, h2, h7]; congr 3; omega, h8⟩
theorem upd_ok {key val : AV} {kv : Value} {x : RV} (hT : keyTag (some kd) = some T) (hk : VR r key kv) (ht : key.tag = T) {es : List ME} {Es : List MapEntry} {K : List ME → R} (i : Nat) (hf : updK key val es K = some x) (h : MEs r es Es) :
    ∃ j e E, K (es.set j ⟨key, val, e.born⟩) = some x ∧ es[j]? = some e ∧ Es[j]? = some E ∧ Instr.findNow kd kv Es i = some (some (i + j, E.val)) ∧ E.key = kv := by
  induction h generalizing i K with
  | nil => cases hf
  | @cons e E l L hk' hv hb tl ih =>
    obtain ⟨b, h1, h2, h3⟩ := key_ok hT hk hk' ht hf
    cases b with
    | true => exact ⟨0, e, E, h1, rfl, rfl, by simp [Instr.findNow, h2], h3 rfl⟩
    | false =>
      obtain ⟨j, e', E', h4, h5, h6, h7, h8⟩ := ih (K := fun r => K (e :: r)) (i + 1) h1
      exact ⟨j + 1, e', E', h4, by simpa using h5, by simpa using h6, by simp only [Instr.findNow, h2, h7]; congr 3; omega, h8⟩
theorem MEs.set : ∀ {es : List ME} {Es : List MapEntry} {j : Nat} {e : ME} {E : MapEntry}, MEs r es Es → VR r e.key E.key → VR r e.val E.val → E.born = e.born → MEs r (es.set j e) (Es.set j E)
  | _, _, j, _, _, .nil, _, _, _ => by cases j <;> exact .nil
  | _, _, 0, _, _, .cons _ _ _ t, hk, hv, hb => .cons hk hv hb t
  | _, _, j + 1, _, _, .cons a b c t, hk, hv, hb => .cons a b c (MEs.set t hk hv hb)
theorem MEs.born : ∀ {es : List ME} {Es : List MapEntry} {j : Nat} {e : ME} {E : MapEntry}, MEs r es Es → es[j]? = some e → Es[j]? = some E → E.born = e.born
  | _, _, j, _, _, .nil, h, _ => by simp at h
  | _, _, 0, _, _, .cons _ _ c t, h, h' => by simp at h h'; subst h h'; exact c
  | _, _, j + 1, _, _, .cons a b c t, h, h' => MEs.born t (j := j) (by simpa using h) (by simpa using h')

theorem keyDesc (hT : keyTag (some kd) = some T) : (∃ k, kd = .int k) ∨ kd = .string := by
  unfold keyTag at hT
  split at hT <;> rename_i h
  · cases h; exact .inl ⟨_, rfl⟩
  · cases h; exact .inr rfl
  · cases hT
theorem run_checkKey {w : World} {b : Bool} {kt : TypeId} {v : Value} (hu : P.underlying kt = some kd) (hT : keyTag (some kd) = some T) : (Instr.checkKey b 10000 kt v).run P w = .ok () w := by
  have : ∀ n, (Instr.checkKey b (n + 1) kt v).run P w = .ok () w := fun n => by
    rcases keyDesc hT with ⟨k, rfl⟩ | rfl <;> simp [Instr.checkKey, run_underlying hu]
  exact this 9999
theorem run_findKey {w : World} {kt : TypeId} {v : Value} {es : List MapEntry} {x : Option (Nat × Value)} (hu : P.underlying kt = some kd) (h : Instr.findNow kd v es 0 = some x) : (Instr.findKey kt v es).run P w = .ok x w := by
  simp [Instr.findKey, run_underlying hu, h]
theorem run_getMap {w : World} {b : Nat} {es : Array MapEntry} {c : Nat} (h : w.heap[b]? = some (.map es c)) : (getObj b).run P w = .ok (.map es c) w := by simp [getObj, Sem.run, h]
def wobj (w : World) (b : Nat) (O : Obj) : World := { w with heap := w.heap.setIfInBounds b O }
theorem run_setMap {w : World} {b : Nat} {es : Array MapEntry} {c : Nat} (h : w.heap[b]? = some (.map es c)) (O : Obj) : (setObj b O).run P w = .ok () (wobj w b O) := by simp [setObj, Sem.run, h, wobj]
theorem post_wobj {h : AH} {w : World} (hr : Rel P r h w) {i : Nat} {ob ob' : OB} {p : Pl} {O : Obj} (hi : h.get i = some ob) (hp : r i = some p) (ho : ObR P r p (wobj w p.blk O) ob') : Post P r h w r (h.put i (some ob')) (wobj w p.blk O) :=
  Post.put hr hi hp (by simp [wobj]) (fun b hb => by simp [wobj, Array.getElem?_setIfInBounds_ne (Ne.symm hb)]) ho rfl rfl rfl
theorem wobj_get {w : World} {b : Nat} {O : Obj} (h : b < w.heap.size) : (wobj w b O).heap[b]? = some O := by simp [wobj, h]

/-- A map that is exact. -/
theorem map_live {h : AH} {w : World} (hr : Rel P r h w) {i : Nat} {ob : OB} {p : Pl} (hg : h.get i = some ob) (hk : ob.kind = 1) (hp : r i = some p) : ∃ cur, w.heap[p.blk]? = some (.map cur ob.n) ∧ MEs r ob.es cur.toList ∧ ∀ e ∈ ob.es, e.born < ob.n := by
  have := hr.live _ _ _ hg hp
  cases this with
  | arr _ _ _ _ _ _ => cases hk
  | map h1 h2 h3 => exact ⟨_, h1, h2, h3⟩
  | lit _ _ _ _ _ => cases hk
  | iter _ _ _ => cases hk
  | loop _ _ _ _ _ _ _ _ => cases hk

theorem zeroVA_run {w : World} {e : TypeId} {z : AV} (h : zeroVA P e = some z) : ∃ v, (zeroValue e).run P w = .ok v w ∧ VR r z v := by
  unfold zeroVA at h
  rw [infK_eq] at h
  cases hi : P.info? e with
  | none => rw [hi] at h; cases h
  | some i =>
    rw [hi] at h
    simp only at h
    cases hz : i.zero with
    | none => rw [hz] at h; cases h
    | some v =>
      rw [hz] at h
      cases h
      exact ⟨v, by simp [zeroValue, typeInfo, hi, hz], VR_ofV r v⟩

/-- Keys of one kind are one if their values are. -/
theorem key_one {a b : AV} {v : Value} (ha : VR r a v) (hb : VR r b v) (hta : a.tag = T) (htb : b.tag = T) (hT : keyTag (some kd) = some T) : a = b := by
  rcases keyDesc hT with ⟨k, rfl⟩ | rfl
  · cases hT
    cases ha <;> first | (cases hta; done) | (cases hb <;> first | (cases htb; done) | rfl)
  · cases hT
    cases ha <;> first | (cases hta; done) | (cases hb <;> first | (cases htb; done) | rfl)
theorem findL_ok {key : AV} {kv : Value} {x : RV} (hT : keyTag (some kd) = some T) (hk : VR r key kv) (ht : key.tag = T) {no : R} {yes : AV → R} : ∀ {es : List ME}, findK key es no yes = some x → (∀ e ∈ es, ∃ v, VR r e.key v) →
    (no = some x ∧ ∀ e ∈ es, ∀ v, VR r e.key v → Instr.sameNow kd kv v = some false) ∨ (∃ e ∈ es, yes e.val = some x ∧ e.key.tag = T ∧ e.key.a = key.a ∧ ∀ v, VR r e.key v → v = kv ∧ Instr.sameNow kd kv v = some true)
  | [], hf, _ => .inl ⟨hf, fun _ h => by cases h⟩
  | e :: es, hf, hv => by
    have hf : keyEq key e.key (fun b => ifB b (yes e.val) (findK key es no yes)) = some x := hf
    have htag : e.key.tag = T := by
      obtain ⟨h1, -⟩ := ifB_some hf
      exact (beq_of h1).symm.trans ht
    obtain ⟨v0, hv0⟩ := hv e List.mem_cons_self
    obtain ⟨b, h1, h2, h3⟩ := key_ok hT hk hv0 ht hf
    have hall : ∀ v, VR r e.key v → v = v0 := fun v hvv => by
      rcases keyDesc hT with ⟨k, rfl⟩ | rfl
      · cases hT
        obtain ⟨k1, e1, e2⟩ := hvv.inv0 htag
        obtain ⟨k2, e3, e4⟩ := hv0.inv0 htag
        have := kindN_inj (e2.symm.trans e4)
        rw [e1, e3, this]
      · cases hT
        obtain ⟨s1, e1, e2⟩ := hvv.inv2 htag
        obtain ⟨s2, e3, e4⟩ := hv0.inv2 htag
        have : s1 = s2 := by
          cases s1; cases s2
          have := e2.symm.trans e4
          simp at this
          rw [this]
        rw [e1, e3, this]
    cases b with
    | true =>
      refine .inr ⟨e, List.mem_cons_self, h1, htag, ?_, fun v hvv => by rw [hall v hvv]; exact ⟨h3 rfl, h2⟩⟩
      have hkv : VR r e.key kv := h3 rfl ▸ hv0
      rw [key_one hk hkv ht htag hT]
    | false =>
      rcases findL_ok hT hk ht h1 (fun f hf => hv f (List.mem_cons_of_mem _ hf)) with ⟨h4, h5⟩ | ⟨f, h4, h5⟩
      · refine .inl ⟨h4, fun f hf v hvv => ?_⟩
        rcases List.mem_cons.1 hf with rfl | hf
        · rw [hall v hvv]; exact h2
        · exact h5 f hf v hvv
      · exact .inr ⟨f, List.mem_cons_of_mem _ h4, h5⟩
theorem findNow_all {kv : Value} : ∀ (Es : List MapEntry) (i : Nat), (∀ E ∈ Es, ∃ b, Instr.sameNow kd kv E.key = some b) →
    (Instr.findNow kd kv Es i = some none ∧ ∀ E ∈ Es, Instr.sameNow kd kv E.key = some false) ∨ (∃ j E, Instr.findNow kd kv Es i = some (some (j, E.val)) ∧ E ∈ Es ∧ Instr.sameNow kd kv E.key = some true)
  | [], i, _ => .inl ⟨rfl, fun _ h => by cases h⟩
  | E :: Es, i, h => by
    obtain ⟨b, hb⟩ := h E List.mem_cons_self
    cases b with
    | true => exact .inr ⟨i, E, by simp [Instr.findNow, hb], List.mem_cons_self, hb⟩
    | false =>
      rcases findNow_all Es (i + 1) (fun F hF => h F (List.mem_cons_of_mem _ hF)) with ⟨h1, h2⟩ | ⟨j, F, h1, h2, h3⟩
      · refine .inl ⟨by simp [Instr.findNow, hb, h1], fun F hF => ?_⟩
        rcases List.mem_cons.1 hF with rfl | hF
        · exact hb
        · exact h2 F hF
      · exact .inr ⟨j, F, by simp [Instr.findNow, hb, h1], List.mem_cons_of_mem _ h2, h3⟩
theorem pairwise_uniq {α β : Type} {f : α → β} : ∀ {l : List α}, (l.Pairwise fun x y => f x ≠ f y) → ∀ x ∈ l, ∀ y ∈ l, f x = f y → x = y
  | [], _, x, hx, _, _, _ => by cases hx
  | a :: l, hp, x, hx, y, hy, he => by
    obtain ⟨h1, h2⟩ := List.pairwise_cons.1 hp
    rcases List.mem_cons.1 hx with e1 | hx1 <;> rcases List.mem_cons.1 hy with e2 | hy1
    · exact e1.trans e2.symm
    · rw [e1] at he ⊢; exact absurd he (h1 y hy1)
    · rw [e2] at he ⊢; exact absurd he.symm (h1 x hx1)
    · exact pairwise_uniq h2 x hx1 y hy1 he
/-- A lookup in a literal. -/
theorem lit_find {key : AV} {kv : Value} {x : RV} (hT : keyTag (some kd) = some T) (hk : VR r key kv) (ht : key.tag = T) {no : R} {yes : AV → R} {es : List ME} {Es : List MapEntry} (hf : findK key es no yes = some x)
    (h1 : ∀ E ∈ Es, ∃ e ∈ es, VR r e.key E.key ∧ VR r e.val E.val) (h2 : ∀ e ∈ es, ∃ E ∈ Es, VR r e.key E.key ∧ VR r e.val E.val) (hd : es.Pairwise fun e f => e.key ≠ f.key) (hg : ∀ e ∈ es, ∀ f ∈ es, e.key.tag = f.key.tag ∧ e.key.a = f.key.a) :
    (no = some x ∧ Instr.findNow kd kv Es 0 = some none) ∨ (∃ j a v, yes a = some x ∧ Instr.findNow kd kv Es 0 = some (some (j, v)) ∧ VR r a v) := by
  rcases findL_ok hT hk ht hf (fun e he => let ⟨E, _, q, _⟩ := h2 e he; ⟨_, q⟩) with ⟨g1, g2⟩ | ⟨e, he, g1, g2, g3, g4⟩
  · have hall : ∀ E ∈ Es, Instr.sameNow kd kv E.key = some false := fun E hE => by
      obtain ⟨e, q1, q2, -⟩ := h1 E hE
      exact g2 e q1 _ q2
    rcases findNow_all (kd := kd) (kv := kv) Es 0 (fun E hE => ⟨_, hall E hE⟩) with ⟨k1, -⟩ | ⟨j, E, -, k2, k3⟩
    · exact .inl ⟨g1, k1⟩
    · rw [hall E k2] at k3; cases k3
  · obtain ⟨E0, m1, m2, m3⟩ := h2 e he
    obtain ⟨m4, m5⟩ := g4 _ m2
    have hdef : ∀ E ∈ Es, ∃ b, Instr.sameNow kd kv E.key = some b ∧ (b = true → VR r e.val E.val) := fun E hE => by
      obtain ⟨e', q1, q2, q3⟩ := h1 E hE
      obtain ⟨t1, t2⟩ := hg e' q1 e he
      have hsome : ∃ y : RV, keyEq key e'.key (fun b => ifB b (some (.val (.bool true) ⟨.nil, 0⟩)) (some (.val (.bool false) ⟨.nil, 0⟩))) = some y := by
        unfold keyEq
        rw [ht, t1, g2, Nat.beq_refl, ifB_t, t2, g3, Nat.beq_refl, ifB_t]
        rcases keyDesc hT with ⟨k, rfl⟩ | rfl
        · cases hT
          rw [Nat.beq_refl, ifB_t]
          cases intEq key.i e'.key.i <;> exact ⟨_, rfl⟩
        · cases hT
          rw [show Nat.beq 2 0 = false from rfl, ifB_f, Nat.beq_refl, ifB_t]
          cases strEq key.s e'.key.s <;> exact ⟨_, rfl⟩
      obtain ⟨y, hy⟩ := hsome
      obtain ⟨b, -, s2, s3⟩ := key_ok hT hk q2 ht hy
      refine ⟨b, s2, fun hb => ?_⟩
      have e1 : VR r e'.key kv := s3 hb ▸ q2
      have e2 : VR r e.key kv := m4 ▸ m2
      have e3 := key_one e1 e2 (t1.trans g2) g2 hT
      rw [← pairwise_uniq (f := ME.key) hd e' q1 e he e3]
      exact q3
    rcases findNow_all (kd := kd) (kv := kv) Es 0 (fun E hE => let ⟨b, q, _⟩ := hdef E hE; ⟨b, q⟩) with ⟨-, k2⟩ | ⟨j, E, k1, k2, k3⟩
    · rw [k2 E0 m1] at m5; cases m5
    · obtain ⟨b, q1, q2⟩ := hdef E k2
      rw [k3] at q1
      cases q1
      exact .inr ⟨j, e.val, E.val, g1, k1, q2 rfl⟩

theorem lookup_ok {ty kt e : TypeId} {x k : Operand} {z : AV} {ok : Bool} (ho : o.op = .lookup ty x k ok) (ht : P.underlying ty = some (.map kt e)) (hu : P.underlying kt = some kd) (hT : keyTag (some kd) = some T) (hz : zeroVA P e = some z) : PlOk P o (lookupC T (evB x).f (evB k).f z ok) := by
  intro t h K y r a w N hf hr he
  have hx := he x (by simp [ho, Op.operands])
  have hk := he k (by simp [ho, Op.operands])
  obtain ⟨h1, hf⟩ := ifB_some hf
  obtain ⟨h2, hf⟩ := ifB_some hf
  obtain ⟨zv, hz1, hz2⟩ := zeroVA_run (r := r) (w := w) hz
  have fin : ∀ (b : Bool) (v : AV) (u : Value), VR r v u → VR r (ifB ok (.tup [v, .bool b]) v) (if ok then .tuple #[u, .bool b] else u) := fun b v u hv => by
    cases ok with
    | true => exact .tup #[u, .bool b] (.cons hv (.cons (.bool b) .nil))
    | false => exact hv
  cases h3 : Nat.beq ((evB x).f t).a 0 with
  | true =>
    rw [h3, ifB_t] at hf
    have hm := (hx.inv5n (beq_of h1) (by rw [beq_of h3]; decide)).1
    refine ⟨_, _, hf, PDoes.pure hr (fin false _ _ hz2) ?_⟩
    simp [execOp, ho, hm, Instr.lookup, run_underlying ht, run_checkKey hu hT, run_findKey (es := []) (x := none) hu rfl, hz1]
  | false =>
    rw [h3, ifB_f] at hf
    obtain ⟨ob, h4, hf⟩ := optK_some hf
    by_cases h5 : ((evB x).f t).a = 1
    · obtain ⟨p, h6, h7⟩ := hx.inv5 (beq_of h1) h5
      cases h8 : Nat.beq ob.kind 1 with
      | false =>
        rw [h8, ifB_f] at hf
        obtain ⟨h9, hf⟩ := ifB_some hf
        have hl := hr.live _ _ _ h4 h6
        cases hl with
        | arr _ _ _ _ _ _ => cases h9
        | map _ _ _ => cases h9
        | iter _ _ _ => cases h9
        | loop _ _ _ _ _ _ _ _ => cases h9
        | lit c1 l1 l2 l3 l4 =>
          rcases lit_find hT hk (beq_of h2) hf l1 l2 l3 l4 with ⟨hf, g1⟩ | ⟨j, a', v', hf, g3, g4⟩
          · refine ⟨_, _, hf, PDoes.pure hr (fin false _ _ hz2) ?_⟩
            simp [execOp, ho, h7, Instr.lookup, run_underlying ht, run_getMap c1, run_checkKey hu hT, run_findKey hu g1, hz1]
          · refine ⟨_, _, hf, PDoes.pure hr (fin true _ _ g4) ?_⟩
            simp [execOp, ho, h7, Instr.lookup, run_underlying ht, run_getMap c1, run_checkKey hu hT, run_findKey hu g3]
      | true =>
        rw [h8, ifB_t] at hf
        obtain ⟨cur, c1, c2, c3⟩ := map_live hr h4 (beq_of h8) h6
        rcases find_ok hT hk (beq_of h2) 0 hf c2 with ⟨hf, g1⟩ | ⟨j, e', E', hf, g1, g2, g3, g4⟩
        · refine ⟨_, _, hf, PDoes.pure hr (fin false _ _ hz2) ?_⟩
          simp [execOp, ho, h7, Instr.lookup, run_underlying ht, run_getMap c1, run_checkKey hu hT, run_findKey hu g1, hz1]
        · refine ⟨_, _, hf, PDoes.pure hr (fin true _ _ g4) ?_⟩
          simp [execOp, ho, h7, Instr.lookup, run_underlying ht, run_getMap c1, run_checkKey hu hT, run_findKey hu g3]
    · have h7 := (hx.inv5n (beq_of h1) h5).2
      rw [h7] at h3
      cases h3

theorem update_ok {ty kt e : TypeId} {x k v : Operand} (ho : o.op = .mapUpdate ty x k v ∨ o.op = .insert ty x k v) (ht : P.underlying ty = some (.map kt e)) (hu : P.underlying kt = some kd) (hT : keyTag (some kd) = some T) : OpOk P o (updateC T (evB x).f (evB k).f (evB v).f) := by
  intro t h K y r a w hf hr he
  have hx := he x (by rcases ho with ho | ho <;> simp [ho, Op.operands])
  have hk := he k (by rcases ho with ho | ho <;> simp [ho, Op.operands])
  have hv := he v (by rcases ho with ho | ho <;> simp [ho, Op.operands])
  have hrun : ∀ w', (Instr.mapUpdate ty (a.eval x) (a.eval k) (a.eval v)).run P w = .ok () w' → (execOp a.eval o).run P w = .ok .skip w' := fun w' hw => by
    rcases ho with ho | ho <;> simp [execOp, ho, hw]
  obtain ⟨h1, hf⟩ := ifB_some hf
  obtain ⟨h3, hf⟩ := ifB_some hf
  obtain ⟨h2, hf⟩ := ifB_some hf
  obtain ⟨ob, h4, hf⟩ := optK_some hf
  obtain ⟨h8, hf⟩ := ifB_some hf
  obtain ⟨p, h6, h7⟩ := hx.inv5 (beq_of h1) (beq_of h3)
  obtain ⟨cur, c1, c2, c3⟩ := map_live hr h4 (beq_of h8) h6
  have hlt : p.blk < w.heap.size := (Array.getElem?_eq_some_iff.1 c1).1
  rcases find_ok hT hk (beq_of h2) 0 hf c2 with ⟨hf, g1⟩ | ⟨-, -, -, hf, -, -, -, -⟩
  · refine ⟨_, _, hf, r, _, undef, .inr ⟨hrun _ ?_, rfl⟩, VR.undef, post_wobj hr h4 h6 (O := .map (cur.push { key := a.eval k, val := a.eval v, born := ob.n }) (ob.n + 1)) (.map (wobj_get hlt) ?_ fun e' he' => ?_)⟩
    · rw [h7]
      simp [Instr.mapUpdate, run_underlying ht, run_getMap c1, run_checkKey hu hT, run_findKey hu g1, run_setMap c1]
    · rw [Array.toList_push]
      exact c2.append (.cons hk hv rfl .nil)
    · rcases List.mem_append.1 he' with h | h
      · have := c3 _ h; omega
      · simp at h
        subst h
        simp
  · obtain ⟨j, e', E', hf, g1, g2, g3, g4⟩ := upd_ok hT hk (beq_of h2) 0 hf c2
    rw [Nat.zero_add] at g3
    have g2' : cur[j]? = some E' := by simpa using g2
    have hsame : Instr.sameBits 10000 E'.key (a.eval k) = true := by
      rw [g4]
      unfold keyTag at hT
      split at hT
      · cases hT
        obtain ⟨k1, h, -⟩ := hk.inv0 (beq_of h2)
        rw [h]
        simp [Instr.sameBits]
      · cases hT
        obtain ⟨s, h, -⟩ := hk.inv2 (beq_of h2)
        rw [h]
        exact (bytes_beq s s).2 rfl
      · cases hT
    refine ⟨_, _, hf, r, _, undef, .inr ⟨hrun _ ?_, rfl⟩, VR.undef, post_wobj hr h4 h6 (O := .map (cur.modify j fun e => { e with key := a.eval k, val := a.eval v }) ob.n) (.map (wobj_get hlt) ?_ fun e2 he2 => ?_)⟩
    · rw [h7]
      simp [Instr.mapUpdate, run_underlying ht, run_getMap c1, run_checkKey hu hT, run_findKey hu g3, g2', Instr.keyThatStays, hsame, run_setMap c1]
    · have e3 : (cur.modify j fun e => { e with key := a.eval k, val := a.eval v }).toList = cur.toList.set j { E' with key := a.eval k, val := a.eval v } := by
        apply List.ext_getElem?
        intro i
        rw [Array.getElem?_toList, Array.getElem?_modify, List.getElem?_set]
        by_cases hij : j = i
        · subst hij
          have := (List.getElem?_eq_some_iff.1 g2).1
          rw [if_pos rfl, if_pos rfl, if_pos this, g2']
          rfl
        · rw [if_neg hij, if_neg hij, Array.getElem?_toList]
      rw [e3]
      have hb : E'.born = e'.born := c2.born g1 g2
      exact c2.set hk hv hb
    · rcases List.mem_or_eq_of_mem_set he2 with h | h
      · exact c3 _ h
      · subst h
        have := c3 e' (List.mem_of_getElem? g1)
        exact this
end
end Go.Proofs.YtfkdkbekmimhoaaGreatDoor
/- The machine for closed runs: bytes of strings, new rows, ranges over maps. -/
namespace Go.Proofs.YtfkdkbekmimhoaaGreatDoor

theorem freeze_new (w : World) (cs : Array Value) (e : TypeId) (n : Nat) : (w.alloc (.cells cs e)).freeze ⟨w.heap.size, n, none⟩ 1 = w.alloc (.cells cs e (n, n + 1)) := by
  have : ((w.heap.push (.cells cs e)).modify w.heap.size fun
      | .cells c elem (lo, hi) => .cells c elem (if lo == hi then (n, n + 1) else (min lo n, max hi (n + 1)))
      | o => o) = w.heap.push (.cells cs e (n, n + 1)) := by
    apply Array.ext_getElem?
    intro i
    rw [Array.getElem?_modify, Array.getElem?_push, Array.getElem?_push]
    by_cases hi : w.heap.size = i
    · rw [if_pos hi, if_pos hi.symm, if_pos hi.symm]
      rfl
    · rw [if_neg hi, if_neg (Ne.symm hi), if_neg (Ne.symm hi)]
  exact congrArg (fun h => ({ w with heap := h } : World)) this
theorem freeze_old {w : World} {b n : Nat} {cs : Array Value} {e : TypeId} {fz : Nat × Nat} (h : w.heap[b]? = some (.cells cs e fz)) : w.freeze ⟨b, n, none⟩ 1 = wcells w b cs e (if fz.1 == fz.2 then (n, n + 1) else (min fz.1 n, max fz.2 (n + 1))) := by
  have hlt := (Array.getElem?_eq_some_iff.1 h).1
  have : (w.heap.modify b fun
      | .cells c elem (lo, hi) => .cells c elem (if lo == hi then (n, n + 1) else (min lo n, max hi (n + 1)))
      | o => o) = w.heap.setIfInBounds b (.cells cs e (if fz.1 == fz.2 then (n, n + 1) else (min fz.1 n, max fz.2 (n + 1)))) := by
    apply Array.ext_getElem?
    intro i
    rw [Array.getElem?_modify]
    by_cases hi : b = i
    · subst hi
      rw [if_pos rfl, h]
      simp [hlt]
    · rw [if_neg hi, Array.getElem?_setIfInBounds_ne hi]
  exact congrArg (fun h => ({ w with heap := h } : World)) this

section
variable {P : Program} {o : Oper}
theorem strBytes_ok {src dst e : TypeId} {x : Operand} (ho : o.op = .convert src dst x) (hs : P.underlying src = some .string) (hd : P.underlying dst = some (.slice e)) (he8 : P.underlying e = some (.int .u8)) (hz : szA P e = some 1) :
    OpOk P o (fun t h k => ifB (Nat.beq ((evB x).f t).tag 2) (ifB (Nat.ble ((evB x).f t).s.length 1000000) (k (.slc h.next 0 ((evB x).f t).s.length capU) (h.new (.arr (((evB x).f t).s.map fun b => .int 1 b.toNat) e))) none) none) := by
  intro t h k z r a w hf hr he
  obtain ⟨h1, hf⟩ := ifB_some hf
  obtain ⟨hbig, hf⟩ := ifB_some hf
  obtain ⟨s, q1, q2⟩ := (he x (by simp [ho, Op.operands])).inv2 (beq_of h1)
  have hbig := Nat.le_of_ble_eq_true hbig
  have hsz : ((evB x).f t).s.length = s.size := by rw [q2]; rfl
  rw [hsz] at hf hbig
  have hlst : VRs r (((evB x).f t).s.map fun b => AV.int 1 b.toNat) (s.data.map fun b => Value.int .u8 b.toNat).toList := by
    rw [q2, Array.toList_map]
    generalize s.data.toList = l
    induction l with
    | nil => exact .nil
    | cons b l ih => exact .cons (.int .u8 _) ih
  have hll := hlst.length
  have hd0 := Post.drew hr
  obtain ⟨cap, hcap⟩ : ∃ c, grownCap w s.size 0 e = c := ⟨_, rfl⟩
  have hge : s.size ≤ cap := by rw [← hcap]; exact grownCap_ge w s.size 0 e
  obtain ⟨cs, hcs⟩ : ∃ cs, (s.data.map fun b => Value.int .u8 b.toNat) ++ Array.replicate (cap - s.size) (Value.int .u8 0) = cs := ⟨_, rfl⟩
  have hcsz : cs.size = cap := by
    rw [← hcs]
    have : s.data.size = s.size := rfl
    simp [this]
    omega
  have hp : Post P r h w.drew (r.set h.next ⟨w.heap.size, 0, cap, 1⟩) (h.new (.arr (((evB x).f t).s.map fun b => .int 1 b.toNat) e)) (w.drew.alloc (.cells cs e (cs.size, cs.size + 1))) := by
    refine Post.alloc hd0.rel rfl (.arr (heap_push_new w.drew _) (.inr (Nat.le_refl _)) hcsz ?_ hz fun j av hj => ?_)
    · simp [hsz, hge]
    · obtain ⟨v, g1, g2⟩ := hlst.get hj
      have hjl := (List.getElem?_eq_some_iff.1 g1).1
      refine ⟨v, ?_, g2.mono (r.le_set _ hr.fresh)⟩
      rw [← hcs, Nat.zero_add, Array.getElem?_append_left (by simpa using hjl)]
      simpa using g1
  have hmax : cap ≤ 9223372036854775807 := by rw [← hcap]; exact grownCap_le_maxLen w s.size 0 e (by simp only [maxLen]; omega)
  · refine ⟨_, _, hf, _, _, _, .inl ?_, .slc (p := ⟨w.heap.size, 0, cap, 1⟩) (Ren.set_same _ _ _) hge (.inl rfl) (.inr rfl) (by simp) (Nat.le_refl _) hmax, hd0.trans hp⟩
    have hsh : (w.drew.alloc (.cells cs e)).shape? w.heap.size = some (e, cs.size) := by
      have := heap_push_new w.drew (.cells cs e)
      simp only [World.shape?]
      rw [show w.heap.size = w.drew.heap.size from rfl, this]
    have hfr := freeze_new w.drew cs e cs.size
    have hfr' : (w.drew.alloc (.cells cs e)).freeze ⟨w.heap.size, cs.size, none⟩ 1 = w.drew.alloc (.cells cs e (cs.size, cs.size + 1)) := hfr
    simp only [execOp, ho, q1, Sem.run_bind, convert, run_underlying hs, run_underlying hd, run_underlying he8, Result.andThen_ok, Conv.stringToBytes, run_choose, Question.forced, Bool.false_eq_true, if_false, World.drew_eq]
    rw [show (Question.appendCap s.size 0 e).cut (w.tape w.drawn (.appendCap s.size 0 e)) = cap from hcap, hcs]
    simp only [newRow, Sem.run_bind, run_newObj, Result.andThen_ok, World.alloc_eq, Sem.run_pure, markStringish, run_shape]
    rw [show w.drew.heap.size = w.heap.size from rfl, hsh]
    simp only [run_freeze, hfr', Result.andThen_ok, Nat.add_zero]

theorem sameBytes_ok {src e _e' : TypeId} {x : Operand} (ho : o.op = .convert src src x) (hs : P.underlying src = some (.slice e)) (he8 : P.underlying e = some (.int .u8)) :
    OpOk P o (fun t h k => ifB (Nat.beq ((evB x).f t).tag 4) (ifB (Nat.beq ((evB x).f t).a 1) (optK none (h.get ((evB x).f t).b) fun o => ifB (Nat.beq o.kind 0) (k ((evB x).f t) h) none) none) none) := by
  intro t h k z r a w hf hr he
  have hx := he x (by simp [ho, Op.operands])
  obtain ⟨h1, hf⟩ := ifB_some hf
  obtain ⟨h2, hf⟩ := ifB_some hf
  obtain ⟨ob, h3, hf⟩ := optK_some hf
  obtain ⟨h4, hf⟩ := ifB_some hf
  obtain ⟨p, o', c', q1, q2, q3, q4, q5, q6, q7, q8⟩ := hx.inv4 (beq_of h1) (beq_of h2)
  obtain ⟨cur, fz, c1, c2, c3, c4, c5, c6, c7⟩ := (hr.live _ _ _ h3 q1).cells (beq_of h4)
  have hlt := (Array.getElem?_eq_some_iff.1 c1).1
  have hsh : w.shape? p.blk = some (ob.n, cur.size) := by simp [World.shape?, c1]
  have hobj : h.put ((evB x).f t).b (some ob) = h.put ((evB x).f t).b (some ob) := rfl
  have hp := Post.put (P := P) hr h3 q1 (w' := w.freeze ⟨p.blk, cur.size, none⟩ 1) (o' := ob) (by rw [freeze_old c1, wcells_size]) (fun b hb => by rw [freeze_old c1]; exact wcells_ne _ _ _ hb) (by
    rw [c7, freeze_old c1]
    refine .arr (wcells_get _ _ _ hlt) ?_ c3 c4 c5 fun j a hj => c6 j a hj
    right
    split
    · exact Nat.le_refl _
    · rename_i hne
      rcases c2 with rfl | c2
      · simp at hne
      · simp only [Nat.le_min]
        exact ⟨c2, Nat.le_refl _⟩) (by rw [freeze_old c1]; rfl) (by rw [freeze_old c1]; rfl) (by rw [freeze_old c1]; rfl)
  -- the machine's memory stays as it was
  have hp' : Post P r h w r h (w.freeze ⟨p.blk, cur.size, none⟩ 1) := by
    have same : ∀ j, (h.put ((evB x).f t).b (some ob)).get j = h.get j := fun j => by
      rw [AH.get_put]
      split
      · rename_i hj
        rw [hj.1, h3]
      · rfl
    have hrel := hp.rel
    refine ⟨⟨fun i o hi => hrel.small i o ((same i).trans hi), fun i o q hi hq => hrel.live i o q ((same i).trans hi) hq, fun i j o o' p q h1 h2 => hrel.inj i j o o' p q ((same i).trans h1) ((same j).trans h2), hrel.dom, hr.top⟩, hp.ext, hp.new, hp.nxt, hp.size, hp.frame, fun i o q hi hq => hp.own i o q ((same i).trans hi) hq, fun _ _ _ => rfl, hp.os, hp.tape, hp.output, Froz.refl _⟩
  refine ⟨_, _, hf, r, _, _, .inl ?_, hx, hp'⟩
  simp [execOp, ho, q2, convert, run_underlying hs, run_underlying he8, markStringish, hsh]

theorem makeSlice_ok {ty e : TypeId} {l c : Operand} {z : List AV} {s : Nat} (ho : o.op = .makeSlice ty l c) (ht : P.underlying ty = some (.slice e)) (hz : zeroA P e = some z) (hs : szA P e = some s) (hk : okRow P e = true) :
    LateOk P o (fun t h k => ifB (Nat.beq ((evB l).f t).tag 0) (ifB (Nat.beq ((evB c).f t).tag 0) (natK none ((evB l).f t).i fun n => natK none ((evB c).f t).i fun m => ifB (Nat.ble n m) (ifB (Nat.ble m 1000000) (k (.slc h.next 0 n m) (h.new (.arr (repA z m) e))) none) none) none) none) := by
  refine ⟨fun t h k y hf => ?_, fun t h k y r a hf he => ?_⟩
  · obtain ⟨h1, hf⟩ := ifB_some hf
    obtain ⟨h2, hf⟩ := ifB_some hf
    obtain ⟨n, h3, hf⟩ := natK_some hf
    obtain ⟨m, h4, hf⟩ := natK_some hf
    obtain ⟨h5, hf⟩ := ifB_some hf
    obtain ⟨h6, hf⟩ := ifB_some hf
    exact ⟨_, _, hf⟩
  obtain ⟨h1, hf⟩ := ifB_some hf
  obtain ⟨h2, hf⟩ := ifB_some hf
  obtain ⟨n, h3, hf⟩ := natK_some hf
  obtain ⟨m, h4, hf⟩ := natK_some hf
  obtain ⟨h5, hf⟩ := ifB_some hf
  obtain ⟨h6, hf⟩ := ifB_some hf
  have h5 := Nat.le_of_ble_eq_true h5
  have h6 := Nat.le_of_ble_eq_true h6
  obtain ⟨kl, q1, -⟩ := (he l (by simp [ho, Op.operands])).inv0 (beq_of h1)
  obtain ⟨kc, q2, -⟩ := (he c (by simp [ho, Op.operands])).inv0 (beq_of h2)
  rw [h3] at q1
  rw [h4] at q2
  obtain ⟨i, zv, k1, k2, k3, k4, k5, k6, k7⟩ := okRow_some hk hs
  obtain ⟨v, -, rfl, i', g2, g3⟩ := run_zero (P := P) (w := { heap := #[], tape := fun _ _ => 0, drawn := 0, os := default, output := #[] }) hz
  rw [k1] at g2; cases g2
  rw [k3] at g3; cases g3
  have hb : i.bytes * m ≤ 1000 * 1000000 := Nat.mul_le_mul k6 h6
  have hb' : ((i.bytes : Int) * (m : Int)) ≤ 1000000000 := by
    rw [← Int.natCast_mul]
    exact Int.ofNat_le.2 hb
  have w1 : IntKind.i64.wrap (n : Int) = n := wrap_in _ (by omega) (by omega)
  have w2 : IntKind.i64.wrap (m : Int) = m := wrap_in _ (by omega) (by omega)
  have hv : VRs r (repA (zv.cells.toList.map ofV1) m) ((Array.range (m * s)).map (fun x => (if m * s = 0 then #[] else zv.cells)[x % (if m * s = 0 then #[] else zv.cells).size]!)).toList := by
    rcases Nat.eq_zero_or_pos m with h0 | h0
    · subst h0
      have e0 : (Array.range (0 * s)) = #[] := by rw [Nat.zero_mul]; rfl
      have e1 : ∀ f : Nat → Value, (Array.map f #[]).toList = [] := fun f => by simp
      rw [e0, e1]
      exact .nil
    · have h0 : ¬ m * s = 0 := Nat.ne_of_gt (Nat.mul_pos h0 k7)
      simp only [if_neg h0]
      have := rep_VRs (r := r) (zv := zv.cells) (n := m) (.inl (by rw [k4]; exact k7))
      rw [k4] at this ⊢
      exact this
  refine ⟨_, _, hf, fun w g hr hn hi hob => ⟨_, _, _, ?_, .slc (Ren.set_same _ _ _) h5 (.inr rfl) (.inr rfl) (by rw [Array.size_map, Array.size_range]; show 0 + m * s ≤ m * s; omega) (Nat.le_refl _) (by omega), late_cells hr hn hi hob hv hs⟩⟩
  obtain ⟨v2, g1, -, i2, g2, g3⟩ := run_zero (P := P) (w := w) hz
  rw [k1] at g2; cases g2
  rw [k3] at g3; cases g3
  have hcond : ¬ ((decide ((m : Int) < 0) || decide ((i.bytes : Int) * (m : Int) > 2 ^ 48) || decide ((n : Int) < 0) || decide ((n : Int) > (m : Int))) = true) := by
    simp only [Bool.or_eq_true, decide_eq_true_eq]
    rintro (((h | h) | h) | h) <;> omega
  simp only [execOp, ho, q1, q2, Instr.makeSlice, Sem.run_bind, run_underlying ht, Result.andThen_ok, asInt, asIntOf, Sem.run_pure, run_info k1, w1, w2, if_neg hcond]
  by_cases h0 : m * s = 0
  · simp only [if_pos h0]
    simp [run_size hs, h0, newRow]
  · simp only [if_neg h0]
    simp [run_size hs, h0, newRow, g1]
end
end Go.Proofs.YtfkdkbekmimhoaaGreatDoor
/- The machine for closed runs: ranges over maps. -/
namespace Go.Proofs.YtfkdkbekmimhoaaGreatDoor

section
variable {P : Program} {o : Oper} {r : Ren}
theorem range_ok {ty kt e : TypeId} {x : Operand} (ho : o.op = .range ty x) (ht : P.underlying ty = some (.map kt e)) : OpOk P o (rangeC (evB x).f) := by
  intro t h k z r a w hf hr he
  have hx := he x (by simp [ho, Op.operands])
  obtain ⟨h1, hf⟩ := ifB_some hf
  obtain ⟨h2, hf⟩ := ifB_some hf
  obtain ⟨ob, h3, hf⟩ := optK_some hf
  obtain ⟨h4, hf⟩ := ifB_some hf
  obtain ⟨p, h5, h6⟩ := hx.inv5 (beq_of h1) (beq_of h2)
  obtain ⟨cur, c1, c2, c3⟩ := map_live hr h3 (beq_of h4) h5
  refine ⟨_, _, hf, _, _, _, .inl ?_, .ptr (p := ⟨w.heap.size, 0, 0, 0⟩) 0 (Ren.set_same _ _ _), Post.alloc (O := .mapIter (some p.blk) ob.n #[] ob.n) hr rfl (.iter (pm := p) (heap_push_new w _) (r.le_set _ hr.fresh _ _ h5) rfl)⟩
  simp [execOp, ho, h6, Instr.range, run_underlying ht, run_getMap c1]

theorem iterK_some {h : AH} {p : AV} {k : OB → OB → R} {x : RV} (hf : iterK h p k = some x) : p.tag = 3 ∧ p.a = 1 ∧ p.c = 0 ∧ ∃ i m, h.get p.b = some i ∧ i.kind = 3 ∧ h.get i.n = some m ∧ m.kind = 1 ∧ m.n = i.m ∧ k i m = some x := by
  obtain ⟨h1, hf⟩ := ifB_some hf
  obtain ⟨h2, hf⟩ := ifB_some hf
  obtain ⟨h3, hf⟩ := ifB_some hf
  obtain ⟨i, h4, hf⟩ := optK_some hf
  obtain ⟨h5, hf⟩ := ifB_some hf
  obtain ⟨m, h6, hf⟩ := optK_some hf
  obtain ⟨h7, hf⟩ := ifB_some hf
  obtain ⟨h8, hf⟩ := ifB_some hf
  exact ⟨beq_of h1, beq_of h2, beq_of h3, i, m, h4, beq_of h5, h6, beq_of h7, beq_of h8, hf⟩
theorem iter_live {h : AH} {w : World} (hr : Rel P r h w) {i : Nat} {ob : OB} {p : Pl} (hg : h.get i = some ob) (hk : ob.kind = 3) (hp : r i = some p) : ∃ pm, w.heap[p.blk]? = some (.mapIter (some pm.blk) ob.m ob.ns.reverse.toArray ob.m) ∧ r ob.n = some pm ∧ p.base = 0 ∧ ob = .iter ob.n ob.m ob.ns := by
  have := hr.live _ _ _ hg hp
  cases this with
  | arr _ _ _ _ _ _ => cases hk
  | map _ _ _ => cases hk
  | lit _ _ _ _ _ => cases hk
  | iter h1 h2 h3 => exact ⟨_, h1, h2, h3, rfl⟩
  | loop _ _ _ _ _ _ _ _ => cases hk
theorem left_ok {seen : List Nat} {x : RV} {no : R} {one : ME → R} : ∀ {es : List ME}, leftK seen es no one = some x →
    (no = some x ∧ ∀ e ∈ es, seen.elem e.born = true) ∨ (∃ pre e post, es = pre ++ e :: post ∧ (∀ e ∈ pre, seen.elem e.born = true) ∧ seen.elem e.born = false ∧ (∀ e ∈ post, seen.elem e.born = true) ∧ one e = some x)
  | [], hf => .inl ⟨hf, fun _ h => by cases h⟩
  | e :: es, hf => by
    cases hs : seen.elem e.born with
    | true =>
      have hf' : ifB (seen.elem e.born) (leftK seen es no one) (ifB (es.all fun e => seen.elem e.born) (one e) none) = some x := hf
      rw [hs, ifB_t] at hf'
      rcases left_ok hf' with ⟨h1, h2⟩ | ⟨pre, e', post, h1, h2, h3⟩
      · exact .inl ⟨h1, fun f hf => (List.mem_cons.1 hf).elim (fun q => q ▸ hs) (h2 f)⟩
      · exact .inr ⟨e :: pre, e', post, by rw [h1]; rfl, fun f hf => (List.mem_cons.1 hf).elim (fun q => q ▸ hs) (h2 f), h3⟩
    | false =>
      have hf' : ifB (seen.elem e.born) (leftK seen es no one) (ifB (es.all fun e => seen.elem e.born) (one e) none) = some x := hf
      rw [hs, ifB_f] at hf'
      obtain ⟨h1, h2⟩ := ifB_some hf'
      exact .inr ⟨[], e, es, rfl, (by intro _ h; cases h), hs, fun f hf => List.all_eq_true.1 h1 f hf, h2⟩
theorem MEs.split : ∀ {pre : List ME} {e : ME} {post : List ME} {Es : List MapEntry}, MEs r (pre ++ e :: post) Es → ∃ Pre E Post, Es = Pre ++ E :: Post ∧ MEs r pre Pre ∧ VR r e.key E.key ∧ VR r e.val E.val ∧ E.born = e.born ∧ MEs r post Post
  | [], e, post, _, .cons hk hv hb t => ⟨[], _, _, rfl, .nil, hk, hv, hb, t⟩
  | f :: pre, e, post, _, .cons hk hv hb t => by
    obtain ⟨Pre, E, Post, h1, h2, h3⟩ := MEs.split t
    exact ⟨_ :: Pre, E, Post, by rw [h1]; rfl, .cons hk hv hb h2, h3⟩
theorem MEs.mem : ∀ {es : List ME} {Es : List MapEntry}, MEs r es Es → ∀ E ∈ Es, ∃ e ∈ es, E.born = e.born
  | _, _, .nil, _, h => by cases h
  | _, _, .cons _ _ hb t, E, h => by
    rcases List.mem_cons.1 h with rfl | h
    · exact ⟨_, by simp, hb⟩
    · obtain ⟨e, h1, h2⟩ := MEs.mem t E h
      exact ⟨e, by simp [h1], h2⟩

theorem next_ok {x : Operand} (ho : o.op = .next x false) : OpOk P o (nextC (evB x).f) := by
  intro t h k z r a w hf hr he
  have hx := he x (by simp [ho, Op.operands])
  obtain ⟨h1, h2, h3, i, m, h4, h5, h6, h7, h8, hf⟩ := iterK_some hf
  obtain ⟨p, q1, q2, q3⟩ := hx.inv3 h1 h2
  obtain ⟨pm, c1, c2, c3, c4⟩ := iter_live hr h4 h5 q1
  obtain ⟨cur, d1, d2, d3⟩ := map_live hr h6 h7 c2
  rw [c3, h3] at q2
  rw [h8] at d1 d3
  have hgi : (getObj p.blk).run P w = .ok (.mapIter (some pm.blk) i.m i.ns.reverse.toArray i.m) w := by simp [getObj, Sem.run, c1]
  have hborn : ∀ E ∈ cur, E.born < i.m := fun E hE => by
    obtain ⟨e, g1, g2⟩ := d2.mem E (by simpa using hE)
    rw [g2]
    exact d3 e g1
  have hall : (!i.ns.reverse.toArray.isEmpty && !cur.isEmpty && cur.all (fun e => decide (e.born ≥ i.m))) = false := by
    rw [Bool.and_eq_false_iff]
    by_cases hc : cur.isEmpty = true
    · left; simp [hc]
    · right
      rw [Bool.eq_false_iff]
      intro hh
      have hne : 0 < cur.size := by
        rcases Nat.eq_zero_or_pos cur.size with h0 | h0
        · exact absurd (by simpa using h0) hc
        · exact h0
      have h9 := (Array.all_eq_true.1 hh) 0 hne
      have h10 := hborn cur[0] (Array.getElem_mem hne)
      simp at h9
      omega
  have hcont : ∀ n, i.ns.reverse.toArray.contains n = i.ns.elem n := fun n => by simp
  have hfilt : (cur.filter fun e => !i.ns.reverse.toArray.contains e.born).toList = cur.toList.filter fun e => !i.ns.elem e.born := by
    simp only [Array.toList_filter, hcont]
  rcases left_ok hf with ⟨hf, g1⟩ | ⟨pre, e, post, g1, g2, g3, g4, hf⟩
  · have hl : (cur.filter fun e => !i.ns.reverse.toArray.contains e.born) = #[] := by
      apply Array.ext'
      rw [hfilt]
      rw [List.filter_eq_nil_iff]
      intro E hE
      obtain ⟨e, g2, g3⟩ := d2.mem E hE
      simp [g3]
      simpa using g1 e g2
    refine ⟨_, _, hf, r, w, .tuple #[.bool false], .inl ?_, .tup _ (.cons (.bool false) .nil), Post.refl hr⟩
    simp only [execOp, ho, q2, Instr.next, Sem.run_bind, hgi, Result.andThen_ok, run_getMap d1, hall, hl]
    simp [Question.forced]
  · rw [g1] at d2
    obtain ⟨Pre, E, Post, e1, e2, e3, e4, e5, e6⟩ := d2.split
    have hl : (cur.filter fun e => !i.ns.reverse.toArray.contains e.born) = #[E] := by
      apply Array.ext'
      rw [hfilt, e1, List.filter_append, List.filter_cons]
      have f1 : Pre.filter (fun e => !i.ns.elem e.born) = [] := by
        rw [List.filter_eq_nil_iff]
        intro E hE
        obtain ⟨e', g5, g6⟩ := e2.mem E hE
        rw [g6, g2 e' g5]
        simp
      have f2 : Post.filter (fun e => !i.ns.elem e.born) = [] := by
        rw [List.filter_eq_nil_iff]
        intro E hE
        obtain ⟨e', g5, g6⟩ := e6.mem E hE
        rw [g6, g4 e' g5]
        simp
      rw [f1, f2, e5, g3]
      rfl
    have hEb : E.born < i.m := hborn E (by
      have : E ∈ cur.toList := by rw [e1]; simp
      simpa using this)
    have hlt : p.blk < w.heap.size := (Array.getElem?_eq_some_iff.1 c1).1
    have hset : (setObj p.blk (.mapIter (some pm.blk) i.m (i.ns.reverse.toArray.push E.born) i.m)).run P w = .ok () (wobj w p.blk (.mapIter (some pm.blk) i.m (i.ns.reverse.toArray.push E.born) i.m)) := by
      simp [setObj, Sem.run, c1, wobj]
    refine ⟨_, _, hf, r, _, .tuple #[.bool true, E.key, E.val], .inl ?_, .tup _ (.cons (.bool true) (.cons e3 (.cons e4 .nil))), post_wobj hr h4 q1 (O := .mapIter (some pm.blk) i.m (i.ns.reverse.toArray.push E.born) i.m) (.iter (pm := pm) ?_ c2 c3)⟩
    · simp only [execOp, ho, q2, Instr.next, Sem.run_bind, hgi, Result.andThen_ok, run_getMap d1, hall, hl]
      have hold : (#[E].filter fun e => decide (e.born < i.m)) = #[E] := by simp [List.filter, hEb]
      have hnew : (#[E].filter fun e => decide (e.born ≥ i.m)) = #[] := by simp [List.filter, Nat.not_le.2 hEb]
      simp only [hold, hnew]
      simp at hset
      simp [Question.forced, hset]
    · rw [wobj_get hlt, ← e5]
      simp
theorem born_ok {b : Nat} {x : RV} {k : ME → R} : ∀ {es : List ME} {Es : List MapEntry}, bornK b es k = some x → MEs r es Es → ∃ e E, k e = some x ∧ Es.find? (fun e => e.born == b) = some E ∧ VR r e.key E.key ∧ VR r e.val E.val := by
  intro es Es hf h
  induction h with
  | nil => cases hf
  | @cons e E l L hk hv hb tl ih =>
    have hf' : ifB (Nat.beq e.born b) (k e) (bornK b l k) = some x := hf
    cases hc : Nat.beq e.born b with
    | true =>
      rw [hc, ifB_t] at hf'
      exact ⟨e, E, hf', by rw [List.find?_cons]; simp [hb, beq_of hc], hk, hv⟩
    | false =>
      rw [hc, ifB_f] at hf'
      obtain ⟨e', E', h1, h2, h3⟩ := ih hf'
      have hne : (e.born == b) = false := beq_eq_false_iff_ne.2 (ne_of_beq hc)
      exact ⟨e', E', h1, by rw [List.find?_cons, hb, hne]; exact h2, h3⟩
theorem entry_ok {x : Operand} (ho : o.op = .entry x) : PlOk P o (entryC (evB x).f) := by
  intro t h k z r a w N hf hr he
  have hx := he x (by simp [ho, Op.operands])
  obtain ⟨h1, h2, h3, i, m, h4, h5, h6, h7, h8, hf⟩ := iterK_some hf
  obtain ⟨p, q1, q2, q3⟩ := hx.inv3 h1 h2
  obtain ⟨pm, c1, c2, c3, c4⟩ := iter_live hr h4 h5 q1
  obtain ⟨cur, d1, d2, d3⟩ := map_live hr h6 h7 c2
  rw [c3, h3] at q2
  rw [h8] at d1
  have hgi : (getObj p.blk).run P w = .ok (.mapIter (some pm.blk) i.m i.ns.reverse.toArray i.m) w := by simp [getObj, Sem.run, c1]
  cases hn : i.ns with
  | nil => rw [hn] at hf; cases hf
  | cons b l =>
    rw [hn] at hf hgi
    obtain ⟨e, E, g1, g2, g3, g4⟩ := born_ok hf d2
    have g2' : cur.find? (fun e => e.born == b) = some E := by rw [← Array.find?_toList]; exact g2
    refine ⟨_, _, g1, PDoes.pure hr (v' := .tuple #[E.key, E.val]) (.tup _ (.cons g3 (.cons g4 .nil))) ?_⟩
    simp [execOp, ho, q2, Instr.entry, hgi, run_getMap d1, g2']
end
end Go.Proofs.YtfkdkbekmimhoaaGreatDoor
/- The machine for closed runs: every operation that calls nothing. -/
namespace Go.Proofs.YtfkdkbekmimhoaaGreatDoor

/-- What is shown of an operation, by its class. -/
def ClsOk (P : Program) (o : Oper) (f : OpT) : Nat → Prop
  | 0 => PlOk P o f
  | 1 => LateOk P o f
  | _ => OpOk P o f
theorem ClsOk.op {P : Program} {o : Oper} {f : OpT} : ∀ {c : Nat}, ClsOk P o f c → OpOk P o f
  | 0, h => PlOk.op h
  | 1, h => LateOk.op h
  | _ + 2, h => h
theorem fail_cls {P : Program} {o : Oper} : ∀ c : Nat, ClsOk P o failB.f c
  | 0 => fail_pl
  | 1 => fail_late
  | _ + 2 => fail_ok

theorem intLt_ok (a b : Int) : intLt a b = decide (a < b) := intLt_eq a b
theorem notLt_ok (a b : Int) : ifB (intLt b a) false true = decide (a ≤ b) := by
  rw [intLt_eq]
  by_cases h : b < a
  · rw [decide_eq_true h, ifB_t, decide_eq_false (by omega)]
  · rw [decide_eq_false h, ifB_f, decide_eq_true (by omega)]

section
variable {P : Program} {o : Oper}
theorem binOp_pl {op : BinOp} {ty ty' : TypeId} {x y : Operand} (ho : o.op = .binOp op ty x y ty') : PlOk P o (opB P o).f := by
  have hp : PlOk P o (pureC P o) := pure_ok fun cs b e => by rw [ho] at e; cases e
  unfold opB
  rw [ho]
  simp only [oB5, undK_eq]
  split
  · exact arith_ok ho (.inl ⟨rfl, intAdd_eq⟩)
  · exact arith_ok ho (.inr ⟨rfl, intSub_eq⟩)
  · exact cmp_ok ho (.inl ⟨rfl, intLt_ok⟩)
  · exact cmp_ok ho (.inr (.inr (.inl ⟨rfl, fun a b => intLt_ok b a⟩)))
  · exact cmp_ok ho (.inr (.inl ⟨rfl, notLt_ok⟩))
  · exact cmp_ok ho (.inr (.inr (.inr ⟨rfl, fun a b => notLt_ok b a⟩)))
  · exact addStr_ok ho
  · rename_i hd
    split
    · rename_i hq
      exact eq_ok ho (eqOf_ok hd hq)
    · exact hp
  · rename_i hd
    split
    · rename_i hq
      exact ne_ok ho (eqOf_ok hd hq)
    · exact hp
  · exact hp

theorem call_op {c : Call} (ho : o.op = .call c) : ClsOk P o (opB P o).f (clsO (.call c)) := by
  obtain ⟨callee, args, argTypes⟩ := c
  cases callee with
  | value f => unfold opB; rw [ho]; exact fail_cls _
  | invoke r m => unfold opB; rw [ho]; exact fail_cls _
  | builtin b =>
    have hp : PlOk P o (pureC P o) := pure_ok fun cs b e => by rw [ho] at e; cases e
    cases b
    case len =>
      unfold opB
      rw [ho]
      simp only [oB17]
      split
      · rename_i x u h1 h2
        obtain ⟨ty, h3, h4⟩ := Option.bind_eq_some_iff.1 h2
        rw [undK_eq] at h4
        exact len_ok ho rfl (by simpa using congrArg List.toArray h1) h3 h4 (.inl ⟨u, rfl, rfl⟩)
      · rename_i x h1 h2
        obtain ⟨ty, h3, h4⟩ := Option.bind_eq_some_iff.1 h2
        rw [undK_eq] at h4
        exact len_ok ho rfl (by simpa using congrArg List.toArray h1) h3 h4 (.inr (.inl ⟨rfl, rfl⟩))
      · rename_i x u v h1 h2
        obtain ⟨ty, h3, h4⟩ := Option.bind_eq_some_iff.1 h2
        rw [undK_eq] at h4
        exact len_ok ho rfl (by simpa using congrArg List.toArray h1) h3 h4 (.inr (.inr ⟨u, v, rfl, rfl⟩))
      · exact fail_cls _
    case append =>
      unfold opB
      rw [ho]
      simp only [oB18, undK_eq]
      split
      · rename_i x y tx ty h1 h2
        split
        · rename_i e e' h3 h4
          split
          · rename_i s h5 h6
            split
            · rename_i h7
              exact append_ok ho rfl (by simpa using congrArg List.toArray h1) (by simpa using congrArg List.toArray h2) h3 h4 h6 h7
            · exact fail_cls _
          · exact fail_cls _
        · exact fail_cls _
      · exact fail_cls _
    all_goals (unfold opB; rw [ho]; exact hp)

theorem opB_cls (P : Program) (o : Oper) : ClsOk P o (opB P o).f (clsO o.op) := by
  cases ho : o.op
  case binOp => exact binOp_pl ho
  case call => exact call_op ho
  all_goals (unfold opB; rw [ho])
  all_goals try exact fail_cls _
  case move => exact move_ok (.inl ho)
  case assign => exact PlOk.op (move_ok (.inr ho))
  case pick => exact pick_ok ho
  case alloc =>
    simp only [oB0]
    split
    · rename_i h1 h2; exact alloc_ok ho h1 h2
    · exact fail_cls _
  case box =>
    simp only [oB1]
    split
    · rename_i h1; exact box_ok ho h1
    · exact fail_cls _
  case build =>
    simp only [oB2, undK_eq]
    split
    · rename_i h1 h2
      split
      · exact fail_cls _
      · rename_i h3; exact build_ok ho h1 h2 h3
    · rename_i h1 h2
      split
      · rename_i h3; exact buildA_ok ho h1 h2 h3
      · exact fail_cls _
    · exact fail_cls _
  case buildSlice =>
    simp only [oB3, undK_eq]
    split
    · rename_i h1
      split
      · rename_i h2 h3 h4
        rw [Bool.and_eq_true] at h4
        exact buildSlice_ok ho h1 h2 h3 h4.1 (Nat.le_of_ble_eq_true h4.2)
      · exact fail_cls _
    · exact fail_cls _
  case load => exact load_ok ho
  case store =>
    simp only [oB4]
    split
    · rename_i h1 h2; exact store1_ok ho h2
    · rename_i h3 _; exact store_ok ho h3
    · exact fail_cls _
  case nilCheck => exact nil_ok ho
  case unOp op ty x =>
    cases op
    case not => exact not_ok ho
    all_goals exact pure_ok fun cs b e => by rw [ho] at e; cases e
  case convert =>
    simp only [oB6, undK_eq]
    split
    · rename_i h1 h2
      split
      · rename_i h3
        split
        · rename_i h4; exact strBytes_ok ho h1 h2 h3 h4
        · exact fail_cls _
      · exact fail_cls _
    · rename_i h1 h2
      split
      · rename_i h3
        split
        · rename_i h4
          have h4 := beq_of h4
          subst h4
          rw [h1] at h2
          cases h2
          exact sameBytes_ok (_e' := 0) ho h1 h3
        · exact fail_cls _
      · exact fail_cls _
    · exact PlOk.op (pure_ok fun cs b e => by rw [ho] at e; cases e)
  case makeFunc fn first cap =>
    cases fn
    case func => exact makeFunc_ok ho
    all_goals exact fail_cls _
  case makeMap ty x =>
    cases x with
    | none => exact makeMap_ok ho
    | some x =>
      simp only [oB7, undK_eq]
      split
      · rename_i h1; exact makeMap2_ok ho h1
      · exact fail_cls _
  case makeSlice =>
    simp only [oB8, undK_eq]
    split
    · rename_i h1
      split
      · rename_i h2 h3
        cases hs : szA P ‹_› with
        | none => simp [okRow, szA, infK_eq] at h3 hs; simp [hs] at h3
        | some s => exact makeSlice_ok ho h1 h2 hs h3
      · exact fail_cls _
    · exact fail_cls _
  case slice ty x lo hi mx =>
    simp only [oB9, undK_eq]
    split
    · rename_i h1
      split
      · rename_i h2
        split
        · rename_i h3
          refine slice_ok ho h1 h2 fun e => ?_
          cases mx with
          | none => cases e
          | some m => simpa using h3
        · exact fail_cls _
      · exact fail_cls _
    · rename_i h1
      cases mx with
      | none => exact sstr_ok ho h1
      | some m => exact fail_cls _
    · exact fail_cls _
  case fieldAddr =>
    simp only [oB10, undK_eq]
    split
    · rename_i h1
      split
      · rename_i h2
        split
        · rename_i h3; exact fieldAddr_ok ho h1 h2 h3
        · exact fail_cls _
      · exact fail_cls _
    · exact fail_cls _
  case field =>
    simp only [oB11, undK_eq]
    split
    · rename_i h1
      split
      · rename_i h2; exact field_ok ho h1 h2
      · exact fail_cls _
    · exact fail_cls _
  case indexAddr =>
    simp only [oB12, undK_eq]
    split
    · rename_i h1
      split
      · rename_i h2; exact indexPtr_ok ho h1 h2
      · exact fail_cls _
    · rename_i h1
      split
      · rename_i h2; exact indexAddr_ok ho h1 h2
      · exact fail_cls _
    · exact fail_cls _
  case index =>
    simp only [oB13, undK_eq]
    split
    · rename_i h1; exact sindex_ok ho h1
    · exact pure_ok fun cs b e => by rw [ho] at e; cases e
  case lookup =>
    simp only [oB14, undK_eq]
    split
    · rename_i kt e h1
      split
      · rename_i z T h2 h3
        cases hk : P.underlying kt with
        | none => rw [hk] at h3; cases h3
        | some kd =>
          rw [hk] at h3
          exact lookup_ok ho h1 hk h3 h2
      · exact fail_cls _
    · exact fail_cls _
  case mapUpdate =>
    simp only [oB15, undK_eq]
    split
    · rename_i kt e h1
      split
      · rename_i T h3
        cases hk : P.underlying kt with
        | none => rw [hk] at h3; cases h3
        | some kd =>
          rw [hk] at h3
          exact update_ok (.inl ho) h1 hk h3
      · exact fail_cls _
    · exact fail_cls _
  case insert =>
    simp only [oB15, undK_eq]
    split
    · rename_i kt e h1
      split
      · rename_i T h3
        cases hk : P.underlying kt with
        | none => rw [hk] at h3; cases h3
        | some kd =>
          rw [hk] at h3
          exact update_ok (.inr ho) h1 hk h3
      · exact fail_cls _
    · exact fail_cls _
  case range =>
    simp only [oB16, undK_eq]
    split
    · rename_i h1; exact range_ok ho h1
    · exact fail_cls _
  case next it b =>
    cases b with
    | false => exact next_ok ho
    | true => exact fail_cls _
  case entry => exact entry_ok ho
  case extract => exact extract_ok ho
end
end Go.Proofs.YtfkdkbekmimhoaaGreatDoor
/- The machine for closed runs: calls; one operation of a region; regions in their order. -/
namespace Go.Proofs.YtfkdkbekmimhoaaGreatDoor

def fw (ro : Option Nat) : Fence := { Fence.wide with round := ro }

/-- A function that is there and has code. -/
def Coded (P : Program) (f : FuncId) : Prop := ∃ fn, P.funcs[f]? = some fn ∧ (fn.name == "runtime.NumGoroutine") = false ∧ fn.body.isSome = true
/-- How calls are served. -/
structure CallOk (P : Program) (call : CallT) : Prop where
  st : ∀ f xs h k x r (args : Array Value) w, call.st f xs h k = some x → Rel P r h w → VRs r xs args.toList → Coded P f ∧
    CallsIn Fence.wide 0 P f args w (fun e w' => ∃ v v' h' s, e = .returned v' ∧ k v h' = some x ∧ VR s v v' ∧ Post P r h w s h' w')
  yd : ∀ l xs h k x r p (args : Array Value) w, call.yd l xs h k = some x → Rel P r h w → r l = some p → VRs r xs args.toList → ∃ fn tmps asg body, (Instr.yield p.blk args).run P w = .ok (.round p.blk fn tmps asg body) w ∧
    RoundIn Fence.wide 0 P p.blk fn tmps asg body w (fun e w' => ∃ v v' h' s, e = .returned v' ∧ k v h' = some x ∧ VR s v v' ∧ Post P r h w s h' w')

theorem litK_eq (k : Nat → R) : ∀ (d a s n : Nat), n < 2 ^ d → litK (litT d a s) n k = k (a + s * n)
  | 0, a, s, n, h => by
    have : n = 0 := by simpa using h
    subst this
    rfl
  | d + 1, a, s, n, h => by
    have h2 : n / 2 < 2 ^ d := by rw [Nat.pow_succ] at h; omega
    have e : litK (litT (d + 1) a s) n k = ifB (Nat.beq (n % 2) 0) (litK (litT d a (2 * s)) (n / 2) k) (litK (litT d (a + s) (2 * s)) (n / 2) k) := rfl
    rw [e, litK_eq k d _ _ _ h2, litK_eq k d _ _ _ h2]
    rcases Nat.mod_two_eq_zero_or_one n with h0 | h0
    · rw [h0]
      show k _ = k _
      congr 2
      have : n = 2 * (n / 2) := by omega
      rw [this]
      simp only [Nat.mul_div_cancel_left _ (by omega : 0 < 2)]
      rw [← Nat.mul_assoc, Nat.mul_comm s 2]
    · rw [h0]
      show k _ = k _
      congr 1
      have : n = 2 * (n / 2) + 1 := by omega
      generalize n / 2 = m at *
      subst this
      rw [Nat.mul_add, Nat.mul_one, ← Nat.mul_assoc, Nat.mul_comm s 2]
      omega

section
variable {P : Program}
theorem run_callFunc {f : FuncId} (hc : Coded P f) (args : Array Value) (w : World) : (callFunc f args).run P w = .ok (.enter f args) w := by
  obtain ⟨fn, h1, h2, h3⟩ := hc
  have h4 : fn.body.isNone = false := by
    cases hb : fn.body with
    | none => rw [hb] at h3; cases h3
    | some c => rfl
  have h2' : ¬ fn.name = "runtime.NumGoroutine" := by simpa using h2
  have h5 : ¬ fn.body = none := fun e => by rw [e] at h4; cases h4
  simp [callFunc, h1, h2', h5]

/-- What a call comes to. -/
def CallRes (P : Program) (w : World) (R : Ending → World → Prop) : Next → Prop
  | .enter f args => CallsIn Fence.wide 0 P f args w R
  | .round l f tmps asg body => RoundIn Fence.wide 0 P l f tmps asg body w R
  | _ => False
/-- A call of a value. -/
theorem valK_ok {call : CallT} (hc : CallOk P call) {f : AV} {fv : Value} {xs : List AV} {args : Array Value} {h : AH} {k : KV} {x : RV} {r : Ren} {w : World} (hf : valK call f xs h k = some x) (hr : Rel P r h w) (hv : VR r f fv) (hx : VRs r xs args.toList) :
    ∃ d nx, (Deferred.ofValue fv args).run P w = .ok d w ∧ (invoke d.target d.args).run P w = .ok nx w ∧
      CallRes P w (fun e w' => ∃ v v' h' s, e = .returned v' ∧ k v h' = some x ∧ VR s v v' ∧ Post P r h w s h' w') nx ∧ (Nat.beq f.a 1 = true → ∃ g as', nx = .enter g as') := by
  unfold valK at hf
  obtain ⟨h1, hf⟩ := ifB_some hf
  have h1 := beq_of h1
  cases h2 : Nat.beq f.a 1 with
  | true =>
    rw [h2, ifB_t] at hf
    obtain ⟨h3, hf⟩ := ifB_some hf
    have h3 := Nat.le_of_ble_eq_true h3
    rw [litK_eq _ 10 0 1 f.b (by omega), Nat.zero_add, Nat.one_mul] at hf
    obtain ⟨a, b, rfl, h5, h6⟩ := hv.inv6 h1 (beq_of h2)
    have ha : VRs r (f.l.take f.c ++ xs ++ f.l.drop f.c) ((a ++ args ++ b).toList) := by
      have e1 := h6.take f.c
      have e2 := h6.drop f.c
      rw [h5] at e1 e2
      have e3 : (a.toList ++ b.toList).take a.size = a.toList := by simp
      have e4 : (a.toList ++ b.toList).drop a.size = b.toList := by simp
      rw [e3] at e1
      rw [e4] at e2
      rw [h5]
      simpa using (e1.append hx).append e2
    have hcall : call.st f.b (f.l.take f.c ++ xs ++ f.l.drop f.c) h k = some x := by
      cases h7 : Nat.beq f.c 0 with
      | true =>
        rw [h7, ifB_t] at hf
        rw [beq_of h7]
        simpa using hf
      | false => rw [h7, ifB_f] at hf; exact hf
    obtain ⟨h8, h9⟩ := hc.st _ _ _ _ _ _ _ _ hcall hr ha
    refine ⟨{ target := .fn (.func f.b) b, args := a ++ args }, .enter f.b (a ++ args ++ b), by simp [Deferred.ofValue], ?_, h9, fun _ => ⟨_, _, rfl⟩⟩
    simp [invoke, run_callFunc h8]
  | false =>
    rw [h2, ifB_f] at hf
    obtain ⟨h3, hf⟩ := ifB_some hf
    obtain ⟨p, h4, rfl⟩ := hv.inv6y h1 (beq_of h3)
    obtain ⟨fn, tmps, asg, body, h5, h6⟩ := hc.yd _ _ _ _ _ _ _ _ _ hf hr h4 hx
    refine ⟨{ target := .fn (.yield p.blk) #[], args := #[] ++ args }, .round p.blk fn tmps asg body, by simp [Deferred.ofValue], ?_, h6, fun e => by cases e⟩
    simp only [invoke, Array.empty_append]
    exact h5

/-- The temporaries after a value is put. -/
theorem put_ok {r : Ren} {t : Fr} {a : Act} {n : Nat} {d : Option Tmp} {v : AV} {v' : Value} (hn : n ≤ 512) (hs : a.tmps.size = n) {i : Nat} (hi : i < 512) (hv : VR r v v') (h : d = some i ∨ VR r (t.get i) (a.tmps.getD i undef)) (h0 : d = some i → VR r (t.get i) (a.tmps.getD i undef) ∨ i < n) :
    VR r (((putF n d).f t v).get i) ((a.put d v').tmps.getD i undef) := by
  cases d with
  | none =>
    rcases h with h | h
    · cases h
    · exact h
  | some d =>
    unfold putF
    simp only [Act.put]
    cases hd : Nat.blt d n with
    | true =>
      have hd : @LT.lt Nat _ d n := Nat.le_of_ble_eq_true hd
      rw [setF_get hi (by omega)]
      by_cases e : i = d
      · subst e
        rw [if_pos rfl]
        simpa [hs, hd] using hv
      · rw [if_neg e]
        rcases h with h | h
        · cases h; exact absurd rfl e
        · simpa [Array.getD_eq_getD_getElem?, Array.getElem?_setIfInBounds_ne (Ne.symm e)] using h
    | false =>
      have hd : ¬ @LT.lt Nat _ d n := fun e => by rw [show Nat.blt d n = true from Nat.ble_eq_true_of_le e] at hd; cases hd
      have e : a.tmps.setIfInBounds d v' = a.tmps := Array.setIfInBounds_eq_of_size_le (by omega)
      rw [e]
      rcases h with h | h
      · rcases h0 h with h | h1
        · exact h
        · cases h; exact absurd h1 hd
      · exact h
theorem put_size {a : Act} {d : Option Tmp} {v : Value} : (a.put d v).tmps.size = a.tmps.size := by
  cases d <;> simp [Act.put]
theorem put_defers {a : Act} {d : Option Tmp} {v : Value} : (a.put d v).defers = a.defers := by
  cases d <;> rfl
theorem FrR.put {r s : Ren} {t : Fr} {a : Act} {n : Nat} {v : AV} {v' : Value} (h : FrR r t a.tmps) (hle : r.le s) (hn : n ≤ 512) (hs : a.tmps.size = n) (d : Option Tmp) (hv : VR s v v') : FrR s ((putF n d).f t v) (a.put d v').tmps :=
  fun i hi => put_ok hn hs hi hv (.inr ((h i hi).mono hle)) fun _ => .inl ((h i hi).mono hle)

variable {n : Nat} {call : CallT} {t : Fr} {h : AH} {k : KC} {x : RV} {r : Ren} {a : Act} {w : World} {o : Oper} {rest : Bx CodeT} {ro : Option Nat} {Q : Exit → Act → World → Prop} {K : Act → World → Prop}

theorem evs_args {args : Array Operand} (he : ∀ y ∈ args.toList, VR r ((evB y).f t) (a.eval y)) : VRs r ((evsB args.toList).f t) (args.map a.eval).toList := by
  have := evs_ok (r := r) (t := t) (a := a) (xs := args.toList) he
  simpa using this

/-- A call's result is put, and on. -/
theorem call_res {nx : Next} {kv : KV}
    (hres : CallRes P w (fun e w' => ∃ v v' h' s, e = .returned v' ∧ kv v h' = some x ∧ VR s v v' ∧ Post P r h w s h' w') nx)
    (hK : ∀ v v' s h' w', kv v h' = some x → VR s v v' → Post P r h w s h' w' → K (a.put o.dst v') w') :
    o.uponIn (fw ro) 0 P a K Q (.ok nx w) := by
  cases nx with
  | enter f args =>
    refine ⟨(fun e => by cases e), CallsIn.mono (F := fw ro) (R := fun e w' => ∃ v v' h' s, e = .returned v' ∧ kv v h' = some x ∧ VR s v v' ∧ Post P r h w s h' w') hres fun e w' he => ?_⟩
    obtain ⟨v, v', h', s, rfl, h1, h2, h3⟩ := he
    exact hK _ _ _ _ _ h1 h2 h3
  | round l f tmps asg body =>
    refine ⟨(fun e => by cases e), RoundIn.mono (F := fw ro) (R := fun e w' => ∃ v v' h' s, e = .returned v' ∧ kv v h' = some x ∧ VR s v v' ∧ Post P r h w s h' w') hres fun e w' he => ?_⟩
    obtain ⟨v, v', h', s, rfl, h1, h2, h3⟩ := he
    exact hK _ _ _ _ _ h1 h2 h3
  | _ => exact hres.elim

/-- One operation. -/
theorem one_ok (hc : CallOk P call) (hf : (oneB P n o rest).f call t h k = some x) (hr : Rel P r h w) (he : EvOk r t a o.op.operands.toList)
    (hK : ∀ v v' s h' w', rest.f call ((putF n o.dst).f t v) h' k = some x → VR s v v' → Post P r h w s h' w' → K (a.put o.dst v') w') : o.wpIn (fw ro) 0 P a w K Q := by
  refine ⟨fun _ _ => trivial, ?_⟩
  unfold oneB at hf
  split at hf
  · rename_i f args ats ho
    rw [Oper.semAt_eq _ _ _ (fun c e => by rw [ho] at e; cases e)]
    have hx := evs_args (r := r) (t := t) (a := a) (args := args) fun y hy => he y (by simp [ho, Op.operands, Call.operands]; exact .inr (by simpa using hy))
    obtain ⟨h1, h2⟩ := hc.st _ _ _ _ _ _ _ _ hf hr hx
    have : (execOp a.eval o).run P w = .ok (.enter f (args.map a.eval)) w := by
      simp [execOp, ho, resolve, Act.eval, Deferred.ofValue, invoke, run_callFunc h1]
    rw [this]
    exact call_res (nx := .enter f (args.map a.eval)) h2 hK
  · rename_i f args ats hnf ho
    rw [Oper.semAt_eq _ _ _ (fun c e => by rw [ho] at e; cases e)]
    have hx := evs_args (r := r) (t := t) (a := a) (args := args) fun y hy => he y (by simp [ho, Op.operands, Call.operands]; exact .inr (by simpa using hy))
    obtain ⟨d, nx, h1, h2, h3, -⟩ := valK_ok hc hf hr (he f (by simp [ho, Op.operands, Call.operands])) hx
    have : (execOp a.eval o).run P w = .ok nx w := by
      simp [execOp, ho, resolve, h1, h2]
    rw [this]
    exact call_res h3 hK
  · have hnd : ∀ c, o.op ≠ .defer c := fun c e => by
      have : (opB P o).f t h (fun v h => rest.f call ((putF n o.dst).f t v) h k) = some x := hf
      unfold opB at this
      rw [e] at this
      cases this
    rw [Oper.semAt_eq _ _ _ hnd]
    obtain ⟨v, h', h1, s, w', v', h2, h3, h4⟩ := (opB_cls P o).op t h _ x r a w hf hr he
    rcases h2 with h2 | ⟨h2, rfl⟩
    · rw [h2]; exact hK _ _ _ _ _ h1 h3 h4
    · rw [h2]; exact hK _ _ _ _ _ h1 h3 h4

/-- One operation of a region, with its guard. -/
theorem step_ok {ops : Array Oper} {i : Nat} (hc : CallOk P call) (ho : ops[i]? = some o) (hf : (stepB P n ops o rest).f call t h k = some x) (hr : Rel P r h w) (he : EvOk r t a o.op.operands.toList)
    (hg : ∀ j want d, o.guard = some (j, want) → (ops[j]?).bind (·.dst) = some d → VR r ((evB (.tmp d)).f t) (a.eval (.tmp d)))
    (hK : ∀ v v' s h' w', rest.f call ((putF n o.dst).f t v) h' k = some x → VR s v v' → Post P r h w s h' w' → K (a.put o.dst v') w') : wpOpIn (fw ro) 0 P ops Q i K a w := by
  unfold wpOpIn
  simp only [ho]
  have hskip : rest.f call ((putF n o.dst).f t .undef) h k = some x → (∀ f, o.about P w a.eval = some f → (fw ro).fn f) ∧ K (a.put o.dst undef) w := fun hs => ⟨fun _ _ => trivial, hK _ _ _ _ _ hs VR.undef (Post.refl hr)⟩
  unfold stepB at hf
  split at hf
  · rename_i hgd
    have : Region.wanted o (yielded ops a.tmps) = true := by simp [Region.wanted, hgd]
    rw [if_pos this]
    exact one_ok hc hf hr he hK
  · rename_i j want hgd
    have hwt : Region.wanted o (yielded ops a.tmps) = (yielded ops a.tmps j == some want) := by simp [Region.wanted, hgd]
    rw [hwt]
    split at hf
    · rename_i d hd
      have hv := hg j want d hgd hd
      have hy : yielded ops a.tmps j = match a.eval (.tmp d) with | .bool b => some b | _ => none := by
        simp [yielded, hd, Act.eval]
        cases a.tmps[d]? with
        | none => rfl
        | some u => cases u <;> rfl
      have hf' : ifB (Nat.beq ((evB (.tmp d)).f t).tag 1) (ifB (Nat.beq ((evB (.tmp d)).f t).a want.toNat) ((oneB P n o rest).f call t h k) ((skipC (putF n o.dst).f rest.f) call t h k)) (ifB (Nat.beq ((evB (.tmp d)).f t).tag 8) ((skipC (putF n o.dst).f rest.f) call t h k) none) = some x := hf
      cases h1 : Nat.beq ((evB (.tmp d)).f t).tag 1 with
      | true =>
        rw [h1, ifB_t] at hf'
        obtain ⟨b, h2, h3⟩ := hv.inv1 (beq_of h1)
        rw [hy, h2]
        cases h4 : Nat.beq ((evB (.tmp d)).f t).a want.toNat with
        | true =>
          rw [h4, ifB_t] at hf'
          have : b = want := by
            have := h3.symm.trans (beq_of h4)
            cases b <;> cases want <;> first | rfl | cases this
          subst this
          simp only [beq_self_eq_true, if_true]
          exact one_ok hc hf' hr he hK
        | false =>
          rw [h4, ifB_f] at hf'
          have : b ≠ want := by
            rintro rfl
            rw [h3] at h4
            rw [Nat.beq_refl] at h4
            cases h4
          have : (some b == some want) = false := by cases b <;> cases want <;> first | rfl | exact absurd rfl this
          simp only [this]
          exact hskip hf'
      | false =>
        rw [h1, ifB_f] at hf'
        obtain ⟨h5, hf'⟩ := ifB_some hf'
        obtain ⟨cs, h6, -⟩ := hv.inv8 (beq_of h5)
        have : (yielded ops a.tmps j == some want) = false := by rw [hy, h6]; rfl
        simp only [this]
        exact hskip hf'
    · rename_i hd
      have : (yielded ops a.tmps j == some want) = false := by
        have : yielded ops a.tmps j = none := by simp [yielded, hd]
        rw [this]
        rfl
      simp only [this]
      exact hskip hf
end
end Go.Proofs.YtfkdkbekmimhoaaGreatDoor
/- The machine for closed runs: code. -/
namespace Go.Proofs.YtfkdkbekmimhoaaGreatDoor

/-- The marks of the loops over functions that an activation has entered. -/
inductive Marks (m : Nat) (w : World) : List Deferred → Prop
  | nil : Marks m w []
  | cons {b : Nat} {ds : List Deferred} (hb : m ≤ b) (h : w.heap[b]? = some (.deferred (some []))) (hn : ∀ d ∈ ds, d.target ≠ .collected b) (t : Marks m w ds) : Marks m w ({ target := .collected b, args := #[] } :: ds)

theorem ObR.no_mark {P : Program} {r : Ren} {p : Pl} {w : World} {o : OB} (h : ObR P r p w o) {d : Option (List Deferred)} (hd : w.heap[p.blk]? = some (.deferred d)) : False := by
  cases h with
  | arr h1 _ _ _ _ _ => rw [h1] at hd; cases hd
  | map h1 _ _ => rw [h1] at hd; cases hd
  | lit h1 _ _ _ _ => rw [h1] at hd; cases hd
  | iter h1 _ _ => rw [h1] at hd; cases hd
  | loop h1 _ _ _ _ _ _ _ => rw [h1] at hd; cases hd
theorem Post.marked {P : Program} {r s : Ren} {h h' : AH} {w w' : World} (hp : Post P r h w s h' w') (hr : Rel P r h w) {b : Nat} {d : Option (List Deferred)} (hb : w.heap[b]? = some (.deferred d)) : w'.heap[b]? = some (.deferred d) := by
  rw [hp.frame b (Array.getElem?_eq_some_iff.1 hb).1 fun i o p h1 h2 e => (hr.live i o p h1 h2).no_mark (e ▸ hb)]
  exact hb
theorem Marks.step {P : Program} {m : Nat} {r s : Ren} {h h' : AH} {w w' : World} (hp : Post P r h w s h' w') (hr : Rel P r h w) : ∀ {ds : List Deferred}, Marks m w ds → Marks m w' ds
  | _, .nil => .nil
  | _, .cons h0 h1 h2 t => .cons h0 (hp.marked hr h1) h2 (Marks.step hp hr t)

/-- An activation as the machine has it. -/
structure St (P : Program) (n m : Nat) (r : Ren) (t : Fr) (h : AH) (a : Act) (w : World) : Prop where
  fr : FrR r t a.tmps
  sz : a.tmps.size = n
  le : n ≤ 512
  rel : Rel P r h w
  marks : Marks m w a.defers
  low : m ≤ w.heap.size

def exitOf : Nat → Nat → Exit
  | 0, _ => .normal
  | 1, o => .exit o
  | _, _ => .ret
/-- How code ends. -/
def After (P : Program) (n m : Nat) (k : KC) (x : RV) (r : Ren) (h : AH) (w : World) (e : Exit) (a : Act) (w' : World) : Prop :=
  ∃ y o t' h' s, k y o t' h' = some x ∧ e = exitOf y o ∧ St P n m s t' h' a w' ∧ Post P r h w s h' w'

section
variable {P : Program} {n m : Nat} {call : CallT} {x : RV} {ro : Option Nat}
theorem After.trans {k : KC} {r s : Ren} {h h' : AH} {w w' w'' : World} {e : Exit} {a : Act} (hp : Post P r h w s h' w') : After P n m k x s h' w' e a w'' → After P n m k x r h w e a w''
  | ⟨y, o, t', h2, s2, h3, h4, h5, h6⟩ => ⟨y, o, t', h2, s2, h3, h4, h5, hp.trans h6⟩
theorem St.step {r s : Ren} {t : Fr} {h h' : AH} {a : Act} {w w' : World} (hs : St P n m r t h a w) (hp : Post P r h w s h' w') (d : Option Tmp) {v : AV} {v' : Value} (hv : VR s v v') : St P n m s ((putF n d).f t v) h' (a.put d v') w' :=
  ⟨hs.fr.put hp.ext hs.le hs.sz d hv, put_size.trans hs.sz, hs.le, hp.rel, by rw [put_defers]; exact hs.marks.step hp hs.rel, Nat.le_trans hs.low hp.size⟩

/-- A region in its order. -/
theorem ops_ok (hc : CallOk P call) {k : KC} {ops : Array Oper} {Q : Exit → Act → World → Prop} : ∀ (l : List Oper) (i0 : Nat), (∀ j, l[j]? = ops[i0 + j]?) → ∀ (t : Fr) (h : AH) (r : Ren) (a : Act) (w : World), (opsB P n ops l).f call t h k = some x → St P n m r t h a w →
    (∀ e a' w', After P n m k x r h w e a' w' → Q e a' w') → wpOpsIn (fw ro) 0 P ops Q (List.range' i0 l.length) a w
  | [], i0, hl, t, h, r, a, w, hf, hs, hQ => hQ _ _ _ ⟨0, 0, t, h, r, hf, rfl, hs, Post.refl hs.rel⟩
  | o :: l, i0, hl, t, h, r, a, w, hf, hs, hQ => by
    rw [List.length_cons, List.range'_succ, wpOpsIn_cons]
    refine step_ok hc (by have := hl 0; simpa using this.symm) hf hs.rel (EvOk.of hs.fr _) (fun j want d _ _ => evB_ok hs.fr _) fun v v' s h' w' h1 h2 h3 => ?_
    exact ops_ok hc l (i0 + 1) (fun j => by have := hl (j + 1); simpa [Nat.add_assoc, Nat.add_comm 1 j] using this) _ _ _ _ _ h1 (hs.step h3 _ h2) fun e a' w'' ha => hQ e a' w'' (ha.trans h3)

theorem region_ok (hc : CallOk P call) {k : KC} {ops : Array Oper} {id : Nat} {t : Fr} {h : AH} {r : Ren} {a : Act} {w : World} (hf : (opsB P n ops ops.toList).f call t h k = some x) (hs : St P n m r t h a w) :
    (Code.region id ops false).wpIn (fw ro) 0 P (After P n m k x r h w) a w := by
  refine wpIn_region ?_
  have := ops_ok (ro := ro) (Q := After P n m k x r h w) hc ops.toList 0 (fun j => by simp) t h r a w hf hs fun _ _ _ h => h
  rw [List.range_eq_range']
  simpa using this

/-- The least of numbers. -/
theorem least {p : Nat → Prop} (h : ∃ m, p m) : ∃ m, p m ∧ ∀ j, p j → m ≤ j := by
  obtain ⟨m, hm⟩ := h
  induction m using Nat.strongRecOn with
  | _ m ih =>
    by_cases hj : ∃ j, j < m ∧ p j
    · obtain ⟨j, h1, h2⟩ := hj
      exact ih j h1 h2
    · exact ⟨m, hm, fun j hp => Nat.le_of_not_lt fun hlt => hj ⟨j, hlt, hp⟩⟩
open Classical in
noncomputable def leastOf (p : Nat → Prop) : Nat := if h : ∃ m, p m then Classical.choose (least h) else 0
theorem leastOf_spec {p : Nat → Prop} (h : ∃ m, p m) : p (leastOf p) ∧ ∀ j, p j → leastOf p ≤ j := by
  unfold leastOf
  rw [dif_pos h]
  exact Classical.choose_spec (least h)

theorem loop_ok {c : Code} {f : CodeT} {k : KC} {t : Fr} {h : AH} {r : Ren} {a : Act} {w : World}
    (ih : ∀ (t : Fr) (h : AH) (k : KC) (r : Ren) (a : Act) (w : World), f call t h k = some x → St P n m r t h a w → c.wpIn (fw ro) 0 P (After P n m k x r h w) a w)
    (hf : loopC f call t h k = some x) (hs : St P n m r t h a w) : (Code.loop c).wpIn (fw ro) 0 P (After P n m k x r h w) a w := by
  let p : Act → World → Nat → Prop := fun a' w' j => ∃ t' h' s, loopK none (fun t h k => f call t h k) j t' h' k = some x ∧ St P n m s t' h' a' w' ∧ Post P r h w s h' w'
  refine wpIn_loop (fun a' w' => ∃ j, p a' w' j) (fun a' w' => leastOf (p a' w')) ⟨100000, t, h, r, hf, hs, Post.refl hs.rel⟩ fun a' w' hI => ?_
  obtain ⟨⟨t', h', s, h1, h2, h3⟩, -⟩ := leastOf_spec hI
  cases hm : leastOf (p a' w') with
  | zero => rw [hm] at h1; cases h1
  | succ j =>
    rw [hm] at h1
    refine wpIn_mono (ih t' h' _ s a' w' h1 h2) fun e a2 w2 he => ?_
    obtain ⟨y, o, t2, h4, s2, h5, rfl, h6, h7⟩ := he
    have h5 : ifB (Nat.beq y 0) (loopK none (fun t h k => f call t h k) j t2 h4 k) (k y o t2 h4) = some x := h5
    cases hy : Nat.beq y 0 with
    | true =>
      rw [hy, ifB_t] at h5
      have := beq_of hy
      subst this
      have hp : p a2 w2 j := ⟨t2, h4, s2, h5, h6, h3.trans h7⟩
      exact ⟨⟨j, hp⟩, Nat.lt_succ_of_le ((leastOf_spec ⟨j, hp⟩).2 j hp)⟩
    | false =>
      rw [hy, ifB_f] at h5
      have hq : After P n m k x r h w (exitOf y o) a2 w2 := ⟨y, o, t2, h4, s2, h5, rfl, h6, h3.trans h7⟩
      match y, hy, hq with
      | 0, hy, _ => cases hy
      | 1, _, hq => exact hq
      | _ + 2, _, hq => exact hq

/-- How code is shown to be done: for a fence of rounds too. -/
def CodeOk (P : Program) (n : Nat) (call : CallT) (c : Code) (f : CodeT) (rd : Bool) : Prop :=
  ∀ (ro : Option Nat) (m : Nat) (t : Fr) (h : AH) (k : KC) (x : RV) (r : Ren) (a : Act) (w : World), (rd = false → ro = none) → f call t h k = some x → St P n m r t h a w → c.wpIn (fw ro) 0 P (After P n m k x r h w) a w

theorem block_ok {rd : Bool} {id : Nat} {b : Code} {bb : Bx CodeT} (ih : CodeOk P n call b bb.f rd) : CodeOk P n call (.block id b) (blockC id bb.f) rd := by
    intro ro m t h k x r a w hro hf hs
    refine wpIn_block (wpIn_mono (ih ro m t h _ x r a w hro hf hs) fun e a' w' he => ?_)
    obtain ⟨y, o, t', h', s, h1, rfl, h2, h3⟩ := he
    have h1 : ifB (Nat.beq y 1) (ifB (Nat.beq o id) (k 0 0 t' h') (k y o t' h')) (k y o t' h') = some x := h1
    cases hy : Nat.beq y 1 with
    | true =>
      rw [hy, ifB_t] at h1
      have := beq_of hy
      subst this
      show Exit.inBlock id _ (.exit o) a' w'
      cases ho : Nat.beq o id with
      | true =>
        rw [ho, ifB_t] at h1
        simp only [Exit.inBlock, beq_of ho, if_true]
        exact ⟨0, 0, t', h', s, h1, rfl, h2, h3⟩
      | false =>
        rw [ho, ifB_f] at h1
        have : o ≠ id := fun e => by rw [e, Nat.beq_refl] at ho; cases ho
        simp only [Exit.inBlock, this, if_false]
        exact ⟨1, o, t', h', s, h1, rfl, h2, h3⟩
    | false =>
      rw [hy, ifB_f] at h1
      have hq : After P n m k x r h w (exitOf y o) a' w' := ⟨y, o, t', h', s, h1, rfl, h2, h3⟩
      match y, hy, hq with
      | 0, _, hq => exact hq
      | 1, hy, _ => cases hy
      | _ + 2, _, hq => exact hq
theorem code_ok {rd : Bool} {blk : Nat → Code → Bx CodeT → Bx CodeT} (hc : CallOk P call) (hb : ∀ id b bb, CodeOk P n call b bb.f rd → CodeOk P n call (.block id b) (blk id b bb).f rd) (hd : ∀ (id : Nat) (ops : Array Oper), CodeOk P n call (.region id ops true) (drawB P n ops).f rd)
    (hrf : ∀ (g : Operand) (ps : Array Tmp) (asg body : Code), CodeOk P n call (.rangeFunc g ps asg body) (rangeFC n (evB g).f ps.toList asg body) false) : ∀ c : Code, CodeOk P n call c (codeG P n rd blk c).f rd := by
  intro c
  induction c with
  | skip => exact fun ro m t h k x r a w hro hf hs => wpIn_skip ⟨0, 0, t, h, r, hf, rfl, hs, Post.refl hs.rel⟩
  | exit id => exact fun ro m t h k x r a w hro hf hs => wpIn_exit ⟨1, id, t, h, r, hf, rfl, hs, Post.refl hs.rel⟩
  | ret => exact fun ro m t h k x r a w hro hf hs => wpIn_ret ⟨2, 0, t, h, r, hf, rfl, hs, Post.refl hs.rel⟩
  | region id ops d =>
    cases d with
    | false => exact fun ro m t h k x r a w hro hf hs => region_ok hc hf hs
    | true => exact hd id ops
  | seq b c ihb ihc =>
    intro ro m t h k x r a w hro hf hs
    refine wpIn_seq (wpIn_mono (ihb ro m t h _ x r a w hro hf hs) fun e a' w' he => ?_)
    obtain ⟨y, o, t', h', s, h1, rfl, h2, h3⟩ := he
    have h1 : ifB (Nat.beq y 0) ((codeG P n rd blk c).f call t' h' k) (k y o t' h') = some x := h1
    cases hy : Nat.beq y 0 with
    | true =>
      rw [hy, ifB_t] at h1
      have := beq_of hy
      subst this
      exact wpIn_mono (ihc ro m t' h' k x s a' w' hro h1 h2) fun e a2 w2 he => he.trans h3
    | false =>
      rw [hy, ifB_f] at h1
      have hq : After P n m k x r h w (exitOf y o) a' w' := ⟨y, o, t', h', s, h1, rfl, h2, h3⟩
      match y, hy, hq with
      | 0, hy, _ => cases hy
      | 1, _, hq => exact hq
      | _ + 2, _, hq => exact hq
  | cond c b1 b2 ih1 ih2 =>
    intro ro m t h k x r a w hro hf hs
    have hf : ifB (Nat.beq ((evB c).f t).tag 1) (ifB (Nat.beq ((evB c).f t).a 1) ((codeG P n rd blk b1).f call t h k) ((codeG P n rd blk b2).f call t h k)) none = some x := hf
    obtain ⟨h1, hf⟩ := ifB_some hf
    obtain ⟨b, h2, h3⟩ := (evB_ok hs.fr c).inv1 (beq_of h1)
    rw [h3] at hf
    cases b with
    | true => exact wpIn_cond_true h2 (ih1 ro m t h k x r a w hro hf hs)
    | false => exact wpIn_cond_false h2 (ih2 ro m t h k x r a w hro hf hs)
  | block id b ih => exact hb id b _ ih
  | loop b ih => exact fun ro m t h k x r a w hro hf hs => loop_ok (fun t h k r a w => ih ro m t h k x r a w hro) hf hs
  | rangeFunc g ps asg body _ _ =>
    cases rd with
    | false => exact hrf g ps asg body
    | true => exact fun ro m t h k x r a w hro hf hs => by cases hf
  | _ => exact fun ro m t h k x r a w hro hf hs => by cases hf
end
end Go.Proofs.YtfkdkbekmimhoaaGreatDoor
/- The machine for closed runs: the plan of a region that draws its order. -/
namespace Go.Proofs.YtfkdkbekmimhoaaGreatDoor

theorem avEqB_ok {x y : AV} {l : Bool} (h : avEqB x y l = true) : x.tag = y.tag ∧ x.a = y.a ∧ x.b = y.b ∧ x.c = y.c ∧ x.d = y.d ∧ x.e = y.e ∧ x.i = y.i ∧ x.s = y.s ∧ l = true := by
  have ib : ∀ {b c : Bool}, ifB b c false = true → b = true ∧ c = true := fun {b c} h => by cases b <;> cases c <;> first | exact ⟨rfl, rfl⟩ | cases h
  obtain ⟨h1, h⟩ := ib h
  obtain ⟨h2, h⟩ := ib h
  obtain ⟨h3, h⟩ := ib h
  obtain ⟨h4, h⟩ := ib h
  obtain ⟨h5, h⟩ := ib h
  obtain ⟨h6, h⟩ := ib h
  obtain ⟨h7, h⟩ := ib h
  obtain ⟨h8, h⟩ := ib h
  rw [intEq_eq] at h7
  exact ⟨beq_of h1, beq_of h2, beq_of h3, beq_of h4, beq_of h5, beq_of h6, eq_of_beq h7, strEq_iff.1 h8, h⟩
theorem AV.ext' {x y : AV} (h1 : x.tag = y.tag ∧ x.a = y.a ∧ x.b = y.b ∧ x.c = y.c ∧ x.d = y.d ∧ x.e = y.e ∧ x.i = y.i ∧ x.s = y.s) (h2 : x.l = y.l) : x = y := by
  cases x; cases y; simp_all
theorem avEq1_ok {x y : AV} (h : avEq1 x y = true) : x = y := by
  obtain ⟨h1, h2, h3, h4, h5, h6, h7, h8, h9⟩ := avEqB_ok h
  refine AV.ext' ⟨h1, h2, h3, h4, h5, h6, h7, h8⟩ ?_
  cases hx : x.l <;> cases hy : y.l <;> rw [hx, hy] at h9 <;> first | rfl | cases h9
theorem avsEq_ok {eq : AV → AV → Bool} (he : ∀ {x y}, eq x y = true → x = y) : ∀ {l m : List AV}, avsEq eq l m = true → l = m
  | [], [], _ => rfl
  | [], _ :: _, h => by cases h
  | _ :: _, [], h => by cases h
  | a :: l, b :: m, h => by
    have h : ifB (eq a b) (avsEq eq l m) false = true := h
    cases h1 : eq a b with
    | true => rw [h1, ifB_t] at h; rw [he h1, avsEq_ok he h]
    | false => rw [h1] at h; cases h
theorem avEqN_ok {eq : AV → AV → Bool} (he : ∀ {x y}, eq x y = true → x = y) {x y : AV} (h : avEqB x y (avsEq eq x.l y.l) = true) : x = y := by
  obtain ⟨h1, h2, h3, h4, h5, h6, h7, h8, h9⟩ := avEqB_ok h
  exact AV.ext' ⟨h1, h2, h3, h4, h5, h6, h7, h8⟩ (avsEq_ok he h9)
theorem avEq_ok {x y : AV} (h : avEq x y = true) : x = y := avEqN_ok (avEqN_ok (avEqN_ok avEq1_ok)) h

/-! ### Masks -/
theorem subM_ok {m c : Nat} (h : subM m c = true) {j : Nat} (hj : Nat.testBit m j = true) : Nat.testBit c j = true := by
  have h1 : m &&& c = m := beq_of h
  rw [← h1, Nat.testBit_and, Bool.and_eq_true] at hj
  exact hj.2

/-- What is done is shut under what must lie ahead. -/
def Shut (D : Nat → Bool) (acc : List Nat) : Prop := ∀ i m, acc[i]? = some m → D i = true → ∀ j, Nat.testBit m j = true → D j = true
def Ahead (D : Nat → Bool) (o : Oper) : Prop := ∀ e ∈ o.after, Region.binds .any e = true → D e.on = true
theorem mask_ok {D : Nat → Bool} {acc : List Nat} (hs : Shut D acc) : ∀ (es : List Edge), (∀ e ∈ es, Region.binds .any e = true → D e.on = true) → ∀ j, Nat.testBit (maskE acc es) j = true → D j = true
  | [], _, j, hj => by simp [maskE] at hj
  | e :: es, h, j, hj => by
    unfold maskE at hj
    cases hb : Region.binds .any e with
    | false =>
      rw [hb] at hj
      exact mask_ok hs es (fun e' he' => h e' (by simp [he'])) j hj
    | true =>
      rw [hb] at hj
      simp only [Nat.testBit_or, Bool.or_eq_true] at hj
      have he := h e (by simp) hb
      rcases hj with hj | hj | hj
      · rw [Nat.testBit_two_pow] at hj
        have : e.on = j := by simpa using hj
        rw [← this]
        exact he
      · cases hg : acc[e.on]? with
        | none => simp [List.getD_eq_getElem?_getD, hg] at hj
        | some m =>
          have : acc.getD e.on 0 = m := by simp [List.getD_eq_getElem?_getD, hg]
          rw [this] at hj
          exact hs _ _ hg he j hj
      · exact mask_ok hs es (fun e' he' => h e' (by simp [he'])) j hj

/-- An item of the plan is an operation of the region; its mask holds what must lie ahead. -/
theorem items_ok {D : Nat → Bool} : ∀ (l : List Oper) (i : Nat) (acc : List Nat), acc.length = i → Shut D acc → (∀ j o, l[j]? = some o → D (i + j) = true → Ahead D o) → ∀ p ∈ itemsGo i acc l, (∃ j, p.i = i + j ∧ l[j]? = some p.o) ∧ (Ahead D p.o → ∀ j, Nat.testBit p.m j = true → D j = true)
  | [], _, _, _, _, _, p, hp => by cases hp
  | o :: l, i, acc, hl, hs, hD, p, hp => by
    rw [itemsGo] at hp
    rcases List.mem_cons.1 hp with rfl | hp
    · exact ⟨⟨0, rfl, rfl⟩, fun ha => mask_ok hs _ fun e he => ha e (by simpa using he)⟩
    · obtain ⟨⟨j, h1, h2⟩, h3⟩ := items_ok l (i + 1) (acc ++ [maskE acc o.after.toList]) (by simp [hl]) (fun k m hk hDk => by
        by_cases hlt : k < acc.length
        · rw [List.getElem?_append_left hlt] at hk
          exact hs k m hk hDk
        · rw [List.getElem?_append_right (by omega)] at hk
          have hk0 : k = i := by
            have := (List.getElem?_eq_some_iff.1 hk).1
            simp at this
            omega
          subst hk0
          have : m = maskE acc o.after.toList := by
            rw [hl] at hk
            simpa using hk.symm
          rw [this]
          exact mask_ok hs _ fun e he => hD 0 o rfl (by simpa using hDk) e (by simpa using he))
        (fun j o' h1 h2 => hD (j + 1) o' (by simpa using h1) (by rw [← h2]; congr 1; omega)) p hp
      exact ⟨⟨j + 1, by omega, by simpa using h2⟩, h3⟩
theorem items_all (l : List Oper) : ∀ (i : Nat) (acc : List Nat) (j : Nat) (o : Oper), l[j]? = some o → ∃ p, p ∈ itemsGo i acc l ∧ p.i = i + j ∧ p.o = o := by
  induction l with
  | nil => intro i acc j o h; simp at h
  | cons o' l ih =>
    intro i acc j o h
    cases j with
    | zero =>
      have h : o' = o := by simpa using h
      subst h
      exact ⟨_, List.mem_cons_self, rfl, rfl⟩
    | succ j =>
      obtain ⟨p, h1, h2, h3⟩ := ih (i + 1) (acc ++ [maskE acc o'.after.toList]) j o (by simpa using h)
      exact ⟨p, List.mem_cons_of_mem _ h1, by omega, h3⟩
theorem items_le : ∀ (l : List Oper) (i : Nat) (acc : List Nat) (p : PS), p ∈ itemsGo i acc l → i ≤ p.i
  | [], _, _, p, hp => by cases hp
  | o :: l, i, acc, p, hp => by
    rcases List.mem_cons.1 hp with rfl | hp
    · exact Nat.le_refl _
    · have := items_le l _ _ p hp
      omega
theorem items_inj : ∀ (l : List Oper) (i : Nat) (acc : List Nat) (p q : PS), p ∈ itemsGo i acc l → q ∈ itemsGo i acc l → p.i = q.i → p = q
  | [], _, _, p, q, hp, _, _ => by cases hp
  | o :: l, i, acc, p, q, hp, hq, he => by
    have lo : ∀ p' ∈ itemsGo (i + 1) (acc ++ [maskE acc o.after.toList]) l, i < p'.i := fun p' hp' => items_le l _ _ p' hp'
    rw [itemsGo] at hp hq
    rcases List.mem_cons.1 hp with rfl | hp <;> rcases List.mem_cons.1 hq with rfl | hq
    · rfl
    · have := lo q hq; simp at he; omega
    · have := lo p hp; simp at he; omega
    · exact items_inj l _ _ p q hp hq he

theorem pick_mem : ∀ {c : Nat} {l : List PS} {p : PS}, pickP c l = some p → p ∈ l
  | _, [], _, h => by cases h
  | c, q :: l, p, h => by
    unfold pickP at h
    split at h
    · cases h; simp
    · exact List.mem_cons_of_mem _ (pick_mem h)
theorem plan_mem : ∀ (n c : Nat) (l : List PS) (p : PS), p ∈ planGo n c l → p ∈ l
  | 0, _, _, _, h => by cases h
  | n + 1, c, l, p, h => by
    unfold planGo at h
    split at h
    · rename_i q hq
      rcases List.mem_cons.1 h with rfl | h
      · exact pick_mem hq
      · exact (List.mem_filter.1 (plan_mem _ _ _ _ h)).1
    · split at h
      · cases h
      · rcases List.mem_cons.1 h with rfl | h
        · simp
        · exact List.mem_cons_of_mem _ (plan_mem _ _ _ _ h)
theorem okE_ok : ∀ (i : Nat) (l : List Oper), okE i l = true → ∀ j o, l[j]? = some o → ∀ e ∈ o.after, Region.binds .any e = true → e.on < i + j
  | _, [], _, j, o, h => by simp at h
  | i, o' :: l, hk, 0, o, h => fun e he hb => by
    unfold okE at hk
    rw [Bool.and_eq_true, List.all_eq_true] at hk
    have e0 : o' = o := by simpa using h
    subst e0
    have := hk.1 e (by simpa using he)
    rw [hb] at this
    simpa using this
  | i, o' :: l, hk, j + 1, o, h => fun e he hb => by
    unfold okE at hk
    rw [Bool.and_eq_true] at hk
    have := okE_ok (i + 1) l hk.2 j o (by simpa using h) e he hb
    omega
end Go.Proofs.YtfkdkbekmimhoaaGreatDoor
/- The machine for closed runs: a region that draws its order. -/
namespace Go.Proofs.YtfkdkbekmimhoaaGreatDoor

def SeenOk (r : Ren) (ts : Fr) (a : Act) (l : List Nat) : Prop := ∀ d ∈ l, VR r ((evB (.tmp d)).f ts) (a.eval (.tmp d))
theorem seen_ev {r : Ren} {ts : Fr} {a : Act} {ops : Array Oper} {o : Oper} (h : SeenOk r ts a (seenBy ops o)) : EvOk r ts a o.op.operands.toList := by
  intro x hx
  cases x with
  | tmp d =>
    refine h d ?_
    unfold seenBy
    refine List.mem_append_right _ ?_
    unfold tmpsOf
    exact List.mem_filterMap.2 ⟨_, hx, rfl⟩
  | const v =>
    have e : ∀ t : Fr, (evB (.const v)).f t = ofV v := fun t => by show (boxV (ofV v)).f t = _; rw [boxV_eq]
    rw [e]
    exact VR_ofV r v
  | func f => exact .fn f #[] #[] .nil
  | global g => exact .junk _
theorem SeenOk.mono {r s : Ren} (hle : r.le s) {ts : Fr} {a : Act} {l : List Nat} (h : SeenOk r ts a l) : SeenOk s ts a l := fun d hd => (h d hd).mono hle

section
variable {P : Program} {ops : Array Oper} {o : Oper} {i : Nat}

/-- What an operation that has been reckoned ahead will do: where memory is looked at; where nothing is; where an object is made. -/
def Lag0 (P : Program) (ops : Array Oper) (i : Nat) (o : Oper) (ts : Fr) (g : AH) (v : AV) : Prop :=
  ∀ (ro : Option Nat) (Q : Exit → Act → World → Prop) (K : Act → World → Prop) (r : Ren) (a : Act) (w : World) (N : Nat), Rel P r ⟨g.t, N⟩ w → SeenOk r ts a (seenBy ops o) → (∀ v', VR r v v' → K (a.put o.dst v') w) → wpOpIn (fw ro) 0 P ops Q i K a w
def LagS (P : Program) (ops : Array Oper) (i : Nat) (o : Oper) (ts : Fr) (v : AV) : Prop :=
  ∀ (ro : Option Nat) (Q : Exit → Act → World → Prop) (K : Act → World → Prop) (r : Ren) (a : Act) (w : World), SeenOk r ts a (seenBy ops o) → (∀ v', VR r v v' → K (a.put o.dst v') w) → wpOpIn (fw ro) 0 P ops Q i K a w
def Lag1 (P : Program) (ops : Array Oper) (i : Nat) (o : Oper) (ts : Fr) (id : Nat) (ob : OB) (v : AV) : Prop :=
  ∀ (ro : Option Nat) (Q : Exit → Act → World → Prop) (K : Act → World → Prop) (r : Ren) (a : Act) (w : World) (g : AH), Rel P r g w → r id = none → id < g.next → (∀ o', g.get id = some o' → o' = ob) → SeenOk r ts a (seenBy ops o) →
    (∀ v' s w', VR s v v' → LPost P r g w id s w' → K (a.put o.dst v') w') → wpOpIn (fw ro) 0 P ops Q i K a w

theorem wp_value {ro : Option Nat} {Q : Exit → Act → World → Prop} {K : Act → World → Prop} {a : Act} {w w' : World} {v' : Value} (ho : ops[i]? = some o) (hw : Region.wanted o (yielded ops a.tmps) = true) (hnd : ∀ c, o.op ≠ .defer c) (he : (execOp a.eval o).run P w = .ok (.value v') w') (hK : K (a.put o.dst v') w') : wpOpIn (fw ro) 0 P ops Q i K a w := by
  unfold wpOpIn
  simp only [ho, hw, if_true]
  refine ⟨fun _ _ => trivial, ?_⟩
  rw [Oper.semAt_eq _ _ _ hnd, he]
  exact hK
theorem wp_skipped {ro : Option Nat} {Q : Exit → Act → World → Prop} {K : Act → World → Prop} {a : Act} {w : World} (ho : ops[i]? = some o) (hw : Region.wanted o (yielded ops a.tmps) = false) (hK : K (a.put o.dst undef) w) : wpOpIn (fw ro) 0 P ops Q i K a w := by
  unfold wpOpIn
  simp only [ho, hw]
  exact ⟨fun _ _ => trivial, hK⟩
theorem cls_defer (h : clsO o.op < 2) : ∀ c, o.op ≠ .defer c := fun c e => by
  rw [e] at h
  exact absurd h (by simp [clsO])

theorem wanted_none (hg : o.guard = none) (y : Nat → Option Bool) : Region.wanted o y = true := by simp [Region.wanted, hg]
theorem wanted_some {j : Nat} {want : Bool} (hg : o.guard = some (j, want)) (y : Nat → Option Bool) : Region.wanted o y = (y j == some want) := by simp [Region.wanted, hg]
theorem yielded_no {a : Act} {j : Nat} (hd : (ops[j]?).bind (·.dst) = none) : yielded ops a.tmps j = none := by simp [yielded, hd]
theorem yielded_at {a : Act} {j d : Nat} (hd : (ops[j]?).bind (·.dst) = some d) : yielded ops a.tmps j = match a.eval (.tmp d) with | .bool b => some b | _ => none := by
  simp [yielded, hd, Act.eval]
  cases a.tmps[d]? with
  | none => rfl
  | some u => cases u <;> rfl

/-- How a guard goes. -/
theorem guard_ok {_f : OpT} {t : Fr} {h : AH} {v : AV} {h1 : AH} (hgf : (guardO P ops o).f t h (fun v h => some (.val v h)) = some (.val v h1)) :
    ((opB P o).f t h (fun v h => some (.val v h)) = some (.val v h1) ∧ ∀ r a, SeenOk r t a (seenBy ops o) → Region.wanted o (yielded ops a.tmps) = true) ∨ (v = .undef ∧ h1 = h ∧ ∀ r a, SeenOk r t a (seenBy ops o) → Region.wanted o (yielded ops a.tmps) = false) := by
  unfold guardO at hgf
  split at hgf
  · rename_i hg
    exact .inl ⟨hgf, fun r a _ => wanted_none hg _⟩
  · rename_i j want hg
    split at hgf
    · rename_i d hd
      have hmem : d ∈ seenBy ops o := by
        unfold seenBy
        rw [hg]
        simp only [hd]
        simp
      simp only at hgf
      cases h1t : Nat.beq ((evB (.tmp d)).f t).tag 1 with
      | true =>
        rw [h1t, ifB_t] at hgf
        cases h4 : Nat.beq ((evB (.tmp d)).f t).a want.toNat with
        | true =>
          rw [h4, ifB_t] at hgf
          refine .inl ⟨hgf, fun r a hs => ?_⟩
          obtain ⟨b, h2, h3⟩ := (hs d hmem).inv1 (beq_of h1t)
          rw [wanted_some hg, yielded_at hd, h2]
          have := h3.symm.trans (beq_of h4)
          cases b <;> cases want <;> first | rfl | cases this
        | false =>
          rw [h4, ifB_f] at hgf
          cases hgf
          refine .inr ⟨rfl, rfl, fun r a hs => ?_⟩
          obtain ⟨b, h2, h3⟩ := (hs d hmem).inv1 (beq_of h1t)
          rw [wanted_some hg, yielded_at hd, h2]
          have : b ≠ want := by
            rintro rfl
            rw [h3, Nat.beq_refl] at h4
            cases h4
          cases b <;> cases want <;> first | rfl | exact absurd rfl this
      | false =>
        rw [h1t, ifB_f] at hgf
        obtain ⟨h5, hgf⟩ := ifB_some hgf
        cases hgf
        refine .inr ⟨rfl, rfl, fun r a hs => ?_⟩
        obtain ⟨cs, h6, -⟩ := (hs d hmem).inv8 (beq_of h5)
        rw [wanted_some hg, yielded_at hd, h6]
        rfl
    · rename_i hd
      cases hgf
      refine .inr ⟨rfl, rfl, fun r a hs => ?_⟩
      rw [wanted_some hg, yielded_no hd]
      rfl

theorem lag_plain {t : Fr} {h : AH} {v : AV} {h1 : AH} (ho : ops[i]? = some o) (hc : clsO o.op = 0) (hgf : (guardO P ops o).f t h (fun v h => some (.val v h)) = some (.val v h1)) : Lag0 P ops i o t h v := by
  intro ro Q K r a w N hr hs hK
  rcases guard_ok (_f := (opB P o).f) hgf with ⟨h2, h3⟩ | ⟨rfl, -, h3⟩
  · have hp : PlOk P o (opB P o).f := by have := opB_cls P o; rw [hc] at this; exact this
    obtain ⟨v0, h0, h4, -, v', h6, h7⟩ := hp t h _ _ r a w N h2 hr (seen_ev hs)
    cases h4
    exact wp_value ho (h3 r a hs) (cls_defer (by omega)) h6 (hK v' h7)
  · exact wp_skipped ho (h3 r a hs) (hK _ VR.undef)
theorem lag_late {t : Fr} {h : AH} {v : AV} {h1 : AH} (ho : ops[i]? = some o) (hc : clsO o.op = 1) (hgf : (guardO P ops o).f t h (fun v h => some (.val v h)) = some (.val v h1)) : (h1 = h ∧ LagS P ops i o t v) ∨ ∃ ob, h1 = h.new ob ∧ Lag1 P ops i o t h.next ob v := by
  rcases guard_ok (_f := (opB P o).f) hgf with ⟨h2, h3⟩ | ⟨rfl, h2, h3⟩
  · have hp : LateOk P o (opB P o).f := by have := opB_cls P o; rw [hc] at this; exact this
    obtain ⟨v0, ob, h4⟩ := hp.makes t h _ _ h2
    cases h4
    refine .inr ⟨ob, rfl, fun ro Q K r a w g hr hn hi hob hs hK => ?_⟩
    obtain ⟨v2, ob2, h5, h6⟩ := hp.does t h _ _ r a h2 (seen_ev hs)
    simp only [Option.some.injEq, RV.val.injEq] at h5
    obtain ⟨rfl, h5⟩ := h5
    obtain ⟨s, w', v', h7, h8, h9⟩ := h6 w g hr hn hi fun o' hg => by
      have e := hob o' hg
      have hsm := hr.small _ _ hg
      have e2 : (h.new ob2).get h.next = (h.new ob).get h.next := by rw [h5]
      rw [AH.get_new, AH.get_new, if_pos ⟨rfl, hsm⟩, if_pos ⟨rfl, hsm⟩] at e2
      rw [e]
      exact (Option.some.inj e2).symm
    exact wp_value ho (h3 r a hs) (cls_defer (by omega)) h7 (hK v' s w' h8 h9)
  · exact .inl ⟨h2, fun ro Q K r a w hs hK => wp_skipped ho (h3 r a hs) (hK _ VR.undef)⟩
end
end Go.Proofs.YtfkdkbekmimhoaaGreatDoor
/- The machine for closed runs: a region that draws its order, whatever order is drawn. -/
namespace Go.Proofs.YtfkdkbekmimhoaaGreatDoor

theorem putF_ne {n : Nat} {d : Option Tmp} {t : Fr} {v : AV} {i : Nat} (hn : n ≤ 512) (hi : i < 512) (h : d ≠ some i) : ((putF n d).f t v).get i = t.get i := by
  cases d with
  | none => rfl
  | some d =>
    unfold putF
    simp only
    cases hd : Nat.blt d n with
    | true =>
      have hd : @LT.lt Nat _ d n := Nat.le_of_ble_eq_true hd
      rw [setF_get hi (by omega), if_neg (fun e => h (by rw [e]))]
    | false => rfl
theorem putF_eq {n d : Nat} {t : Fr} {v : AV} (hn : n ≤ 512) (h : d < n) : ((putF n (some d)).f t v).get d = v := by
  unfold putF
  have : Nat.blt d n = true := Nat.ble_eq_true_of_le h
  simp only [this]
  rw [setF_get (by omega) (by omega), if_pos rfl]
theorem put_ne {a : Act} {d : Option Tmp} {v : Value} {i : Nat} (h : d ≠ some i) : (a.put d v).tmps.getD i undef = a.tmps.getD i undef := by
  cases d with
  | none => rfl
  | some d => simp [Act.put, Array.getD_eq_getD_getElem?, Array.getElem?_setIfInBounds_ne (fun e : d = i => h (by rw [e]))]
theorem put_eq {a : Act} {d : Nat} {v : Value} (h : d < a.tmps.size) : (a.put (some d) v).tmps.getD d undef = v := by
  simp [Act.put, h]
theorem ev_get {d : Nat} (t : Fr) (h : d < 512) : (evB (.tmp d)).f t = t.get d := by
  unfold evB
  have : Nat.blt d 512 = true := Nat.ble_eq_true_of_le h
  simp only [this]
  exact getF_eq d t
theorem ev_big {d : Nat} (t : Fr) (h : ¬ d < 512) : (evB (.tmp d)).f t = .junk := by
  unfold evB
  have : Nat.blt d 512 = false := by
    cases hb : Nat.blt d 512 with
    | false => rfl
    | true => exact absurd (Nat.le_of_ble_eq_true hb) h
  simp only [this]

theorem names_seen {ops : Array Oper} {d : Nat} {q : PS} (h : d ∈ seenBy ops q.o) : namesT ops (some d) q = true := by
  unfold namesT
  simp only [Bool.or_eq_true]
  exact .inr (by simpa using h)
theorem names_dst {ops : Array Oper} {d : Nat} {q : PS} (h : q.o.dst = some d) : namesT ops (some d) q = true := by
  unfold namesT
  simp [h]

theorem bitK_bit {β : Type} (m i : Nat) (x y : β) : bitK (bitN m i) x y = if Nat.testBit m i = true then y else x := by
  unfold Nat.testBit
  have e : bitN m i = 1 &&& m >>> i := rfl
  rw [e]
  cases h : 1 &&& m >>> i with
  | zero => rw [if_neg (by simp)]; rfl
  | succ j => rw [if_pos (by simp)]; rfl
theorem maskL_ok : ∀ (l : List Nat) (d : Nat), Nat.testBit (maskL l) d = l.elem d
  | [], d => by simp [maskL]
  | a :: l, d => by
    have e : maskL (a :: l) = 2 ^ a ||| maskL l := rfl
    rw [e, Nat.testBit_or, maskL_ok l d, Nat.testBit_two_pow, List.elem_cons]
    by_cases h : a = d
    · subst h; simp
    · have h2 : (d == a) = false := beq_eq_false_iff_ne.2 (Ne.symm h)
      simp [h, h2]
theorem nmOf_ok {ops : Array Oper} {q : PS} {d : Nat} : Nat.testBit (nmOf ops q) d = namesT ops (some d) q := by
  unfold nmOf namesT
  rw [maskL_ok]
  cases h : q.o.dst with
  | none => simp
  | some e =>
    rw [Bool.eq_iff_iff]
    simp
    constructor <;> (rintro (h | h) <;> first | exact .inl h.symm | exact .inr h)
noncomputable def qiOf (ops : Array Oper) (p : PS) : QI := ⟨p.i, p.m, nmOf ops p⟩
theorem cmpQ_eq {ops : Array Oper} : ∀ (its : List PS) (k : List QI → Bool), cmpQ ops its k = k (its.map (qiOf ops))
  | [], k => rfl
  | p :: l, k => by
    have e : cmpQ ops (p :: l) k = cmpQ ops l fun l => k (⟨p.i, p.m, nmOf ops p⟩ :: l) := rfl
    rw [e, cmpQ_eq l]
    rfl
theorem allS_ok {ops : Array Oper} {d pi : Nat} : ∀ (l : List PS), allS d pi (l.map (qiOf ops)) = true → ∀ q ∈ l, q.i = pi ∨ namesT ops (some d) q = false ∨ Nat.testBit q.m pi = true
  | [], _, q, hq => by cases hq
  | p :: l, h, q, hq => by
    have e : allS d pi ((p :: l).map (qiOf ops)) = bitK (bitN (nmOf ops p) d) (allS d pi (l.map (qiOf ops))) (bitK (bitN p.m pi) (ifB (Nat.beq p.i pi) (allS d pi (l.map (qiOf ops))) false) (allS d pi (l.map (qiOf ops)))) := rfl
    rw [e, bitK_bit, bitK_bit, nmOf_ok] at h
    by_cases h1 : namesT ops (some d) p = true
    · rw [if_pos h1] at h
      by_cases h2 : Nat.testBit p.m pi = true
      · rw [if_pos h2] at h
        rcases List.mem_cons.1 hq with rfl | hq
        · exact .inr (.inr h2)
        · exact allS_ok l h q hq
      · rw [if_neg h2] at h
        cases h3 : Nat.beq p.i pi with
        | false => rw [h3] at h; cases h
        | true =>
          rw [h3] at h
          rcases List.mem_cons.1 hq with rfl | hq
          · exact .inl (beq_of h3)
          · exact allS_ok l h q hq
    · rw [if_neg h1] at h
      rcases List.mem_cons.1 hq with rfl | hq
      · exact .inr (.inl (by simpa using h1))
      · exact allS_ok l h q hq
theorem allH_ok {ops : Array Oper} {d pi pm : Nat} : ∀ (l : List PS), allH d pi pm (l.map (qiOf ops)) = true → ∀ q ∈ l, q.i = pi ∨ namesT ops (some d) q = false ∨ Nat.testBit q.m pi = true ∨ Nat.testBit pm q.i = true
  | [], _, q, hq => by cases hq
  | p :: l, h, q, hq => by
    have e : allH d pi pm ((p :: l).map (qiOf ops)) = bitK (bitN (nmOf ops p) d) (allH d pi pm (l.map (qiOf ops))) (bitK (bitN p.m pi) (bitK (bitN pm p.i) (ifB (Nat.beq p.i pi) (allH d pi pm (l.map (qiOf ops))) false) (allH d pi pm (l.map (qiOf ops)))) (allH d pi pm (l.map (qiOf ops)))) := rfl
    rw [e, bitK_bit, bitK_bit, bitK_bit, nmOf_ok] at h
    by_cases h1 : namesT ops (some d) p = true
    · rw [if_pos h1] at h
      by_cases h2 : Nat.testBit p.m pi = true
      · rw [if_pos h2] at h
        rcases List.mem_cons.1 hq with rfl | hq
        · exact .inr (.inr (.inl h2))
        · exact allH_ok l h q hq
      · rw [if_neg h2] at h
        by_cases h4 : Nat.testBit pm p.i = true
        · rw [if_pos h4] at h
          rcases List.mem_cons.1 hq with rfl | hq
          · exact .inr (.inr (.inr h4))
          · exact allH_ok l h q hq
        · rw [if_neg h4] at h
          cases h3 : Nat.beq p.i pi with
          | false => rw [h3] at h; cases h
          | true =>
            rw [h3] at h
            rcases List.mem_cons.1 hq with rfl | hq
            · exact .inl (beq_of h3)
            · exact allH_ok l h q hq
    · rw [if_neg h1] at h
      rcases List.mem_cons.1 hq with rfl | hq
      · exact .inr (.inl (by simpa using h1))
      · exact allH_ok l h q hq
theorem laterH_ok {pi : Nat} : ∀ (l : List PS), laterH pi l = true → ∀ q ∈ l, Nat.testBit q.m pi = true
  | [], _, q, hq => by cases hq
  | p :: l, h, q, hq => by
    have e : laterH pi (p :: l) = bitK (bitN p.m pi) false (laterH pi l) := rfl
    rw [e, bitK_bit] at h
    by_cases h2 : Nat.testBit p.m pi = true
    · rw [if_pos h2] at h
      rcases List.mem_cons.1 hq with rfl | hq
      · exact h2
      · exact laterH_ok l h q hq
    · rw [if_neg h2] at h; cases h
theorem ifB_and {b c : Bool} (h : ifB b c false = true) : b = true ∧ c = true := by
  cases b
  · cases h
  · exact ⟨rfl, h⟩
theorem all_or {all : List PS} {f : PS → Bool} {p : PS → Prop} (h : ∀ q ∈ all, p q) (hf : ∀ q, p q → f q = true) : all.all f = true := List.all_eq_true.2 fun q hq => hf q (h q hq)
theorem okQ_ok {ops : Array Oper} {n : Nat} {all : List PS} : ∀ (l : List PS) (c : Nat), okQ ops n (all.map (qiOf ops)) l c = true → okP ops n all c l = true
  | [], c, h => h
  | p :: l, c, h => by
    have e : okQ ops n (all.map (qiOf ops)) (p :: l) c = ifB (Nat.beq (Nat.land p.m c) p.m) (bitK (bitN c p.i) (okQ1 ops n (all.map (qiOf ops)) p l p.i p.m (okQ ops n (all.map (qiOf ops)) l (c ||| 2 ^ p.i))) false) false := rfl
    rw [e, bitK_bit] at h
    obtain ⟨h1, h⟩ := ifB_and h
    by_cases h2 : Nat.testBit c p.i = true
    · rw [if_pos h2] at h; cases h
    rw [if_neg h2] at h
    have k1 : subM p.m c = true := h1
    unfold okP
    simp only [Bool.and_eq_true]
    refine ⟨k1, by simpa using h2, ?_⟩
    unfold okQ1 at h
    cases hd : p.o.dst with
    | none =>
      rw [hd] at h
      have h : ifB (Nat.blt (clsO p.o.op) 2) (okQ ops n (all.map (qiOf ops)) l (c ||| 2 ^ p.i)) (ifB (laterH p.i l) (okQ ops n (all.map (qiOf ops)) l (c ||| 2 ^ p.i)) false) = true := h
      cases hc : Nat.blt (clsO p.o.op) 2 with
      | true =>
        rw [hc] at h
        exact ⟨rfl, by simp [namesT], okQ_ok l _ h⟩
      | false =>
        rw [hc] at h
        obtain ⟨h3, h⟩ := ifB_and h
        refine ⟨rfl, ?_, okQ_ok l _ h⟩
        have := laterH_ok l h3
        simp [namesT]
        exact this
    | some d =>
      rw [hd] at h
      have h : ifB (Nat.blt d n) (ifB (Nat.blt (clsO p.o.op) 2) (ifB ((seenBy ops p.o).elem d) false (ifB (allS d p.i (all.map (qiOf ops))) (okQ ops n (all.map (qiOf ops)) l (c ||| 2 ^ p.i)) false)) (ifB (laterH p.i l) (ifB (allH d p.i p.m (all.map (qiOf ops))) (okQ ops n (all.map (qiOf ops)) l (c ||| 2 ^ p.i)) false) false)) false = true := h
      obtain ⟨h3, h⟩ := ifB_and h
      cases hc : Nat.blt (clsO p.o.op) 2 with
      | true =>
        rw [hc] at h
        cases hs : (seenBy ops p.o).elem d with
        | true => rw [hs] at h; cases h
        | false =>
          rw [hs] at h
          obtain ⟨h5, h⟩ := ifB_and (b := allS d p.i (all.map (qiOf ops))) h
          refine ⟨h3, ?_, okQ_ok l _ h⟩
          simp only [hs, Bool.not_false, Bool.true_and]
          exact all_or (allS_ok all h5) fun q hq => by
            rcases hq with e | e | e
            · rw [e, Nat.beq_refl]; rfl
            · rw [e]; simp
            · rw [e]; simp
      | false =>
        rw [hc] at h
        obtain ⟨h6, h⟩ := ifB_and (b := laterH p.i l) h
        obtain ⟨h5, h⟩ := ifB_and (b := allH d p.i p.m (all.map (qiOf ops))) h
        refine ⟨h3, ?_, okQ_ok l _ h⟩
        simp only [Bool.and_eq_true]
        refine ⟨List.all_eq_true.2 (laterH_ok l h6), ?_⟩
        exact all_or (allH_ok all h5) fun q hq => by
          rcases hq with e | e | e | e
          · rw [e, Nat.beq_refl]; rfl
          · rw [e]; simp
          · rw [e]; simp
          · rw [e]; simp
theorem okF_ok {ops : Array Oper} {n : Nat} {all l : List PS} (h : okF ops n all l = true) : okP ops n all 0 l = true := by
  unfold okF at h
  rw [cmpQ_eq] at h
  exact okQ_ok l 0 h
theorem pickQ_mem {c : Nat} {S : List PS} : ∀ (l : List PQ) (no : List PS) (yes : PQ → List PQ → List PS), (∀ p ∈ no, p ∈ S) → (∀ q r, q ∈ l → (∀ x ∈ r, x ∈ l) → ∀ p ∈ yes q r, p ∈ S) → ∀ p ∈ pickQ c l no yes, p ∈ S
  | [], no, yes, h1, h2, p, hp => h1 p hp
  | q :: t, no, yes, h1, h2, p, hp => by
    have e : pickQ c (q :: t) no yes = bitK q.s (pickQ c t no fun p r => yes p (q :: r)) (ifB (Nat.beq (Nat.land q.m c) q.m) (yes q t) (pickQ c t no fun p r => yes p (q :: r))) := rfl
    have later : ∀ p ∈ pickQ c t no fun p r => yes p (q :: r), p ∈ S := pickQ_mem t no _ h1 fun q' r hq hr p hp => h2 q' (q :: r) (List.mem_cons_of_mem _ hq) (fun x hx => by
      rcases List.mem_cons.1 hx with rfl | hx
      · simp
      · exact List.mem_cons_of_mem _ (hr x hx)) p hp
    rw [e] at hp
    cases hs : q.s with
    | zero => rw [hs] at hp; exact later p hp
    | succ j =>
      rw [hs] at hp
      have hp : p ∈ ifB (Nat.beq (Nat.land q.m c) q.m) (yes q t) (pickQ c t no fun p r => yes p (q :: r)) := hp
      cases hb : Nat.beq (Nat.land q.m c) q.m with
      | true => rw [hb] at hp; exact h2 q t (by simp) (fun x hx => List.mem_cons_of_mem _ hx) p hp
      | false => rw [hb] at hp; exact later p hp
theorem planQ_mem {S : List PS} : ∀ (n c : Nat) (l : List PQ), (∀ q ∈ l, q.p ∈ S) → ∀ p ∈ planQ n c l, p ∈ S
  | 0, _, _, _, p, hp => by cases hp
  | n + 1, c, l, hl, p, hp => by
    have e : planQ (n + 1) c l = pickQ c l (List.rec (motive := fun _ => List PS) [] (fun q t _ => q.p :: planQ n (c ||| q.b) t) l) (fun q r => q.p :: planQ n (c ||| q.b) r) := rfl
    rw [e] at hp
    refine pickQ_mem l _ _ ?_ (fun q r hq hr p hp => ?_) p hp
    · cases l with
      | nil => intro p hp; cases hp
      | cons q t =>
        intro p hp
        have hp : p ∈ q.p :: planQ n (c ||| q.b) t := hp
        rcases List.mem_cons.1 hp with rfl | hp
        · exact hl q (by simp)
        · exact planQ_mem n _ t (fun q hq => hl q (List.mem_cons_of_mem _ hq)) p hp
    · rcases List.mem_cons.1 hp with rfl | hp
      · exact hl q hq
      · exact planQ_mem n _ r (fun x hx => hl x (hr x hx)) p hp
theorem cmpP_eq : ∀ (its : List PS) (k : List PQ → List PS), cmpP its k = k (its.map fun p => ⟨p, softN p, p.m, 2 ^ p.i⟩)
  | [], k => rfl
  | p :: l, k => by
    have e : cmpP (p :: l) k = cmpP l fun l => k (⟨p, softN p, p.m, 2 ^ p.i⟩ :: l) := rfl
    rw [e, cmpP_eq l]
    rfl
theorem planF_mem (n c : Nat) (its : List PS) (p : PS) (hp : p ∈ planF n c its) : p ∈ its := by
  unfold planF at hp
  rw [cmpP_eq] at hp
  refine planQ_mem n c _ (fun q hq => ?_) p hp
  obtain ⟨a, ha, rfl⟩ := List.mem_map.1 hq
  exact ha

/-- What the plan's test says. -/
theorem okP_cons {ops : Array Oper} {n : Nat} {all : List PS} {c : Nat} {p : PS} {l : List PS} (h : okP ops n all c (p :: l) = true) :
    subM p.m c = true ∧ Nat.testBit c p.i = false ∧ (∀ d, p.o.dst = some d → d < n) ∧
    (clsO p.o.op < 2 → (∀ d, p.o.dst = some d → d ∉ seenBy ops p.o) ∧ ∀ q ∈ all, q.i = p.i ∨ namesT ops p.o.dst q = false ∨ Nat.testBit q.m p.i = true) ∧
    (¬ clsO p.o.op < 2 → (∀ q ∈ l, Nat.testBit q.m p.i = true) ∧ ∀ q ∈ all, q.i = p.i ∨ namesT ops p.o.dst q = false ∨ Nat.testBit q.m p.i = true ∨ Nat.testBit p.m q.i = true) ∧
    okP ops n all (c ||| 2 ^ p.i) l = true := by
  unfold okP at h
  simp only [Bool.and_eq_true] at h
  obtain ⟨h1, h2, h3, h4, h5⟩ := h
  refine ⟨h1, by simpa using h2, fun d hd => ?_, fun hc => ?_, fun hc => ?_, h5⟩
  · rw [hd] at h3
    exact Nat.le_of_ble_eq_true h3
  · have hb : Nat.blt (clsO p.o.op) 2 = true := Nat.ble_eq_true_of_le hc
    rw [hb] at h4
    simp only [Bool.and_eq_true, List.all_eq_true] at h4
    refine ⟨fun d hd hm => ?_, fun q hq => ?_⟩
    · have h6 := h4.1
      rw [hd] at h6
      simp at h6
      exact h6 hm
    · have := h4.2 q hq
      simp only [Bool.or_eq_true, Bool.not_eq_true'] at this
      exact this.imp beq_of id
  · have hb : Nat.blt (clsO p.o.op) 2 = false := by
      cases hb : Nat.blt (clsO p.o.op) 2 with
      | false => rfl
      | true => exact absurd (Nat.le_of_ble_eq_true hb) hc
    rw [hb] at h4
    simp only [Bool.and_eq_true, List.all_eq_true] at h4
    refine ⟨h4.1, fun q hq => ?_⟩
    have := h4.2 q hq
    simp only [Bool.or_eq_true, Bool.not_eq_true'] at this
    exact this.imp beq_of id
theorem okP_nil {ops : Array Oper} {n : Nat} {all : List PS} {c : Nat} (h : okP ops n all c [] = true) {i : Nat} (hi : i < ops.size) : Nat.testBit c i = true := by
  have : c = 2 ^ ops.size - 1 := beq_of h
  rw [this, Nat.testBit_two_pow_sub_one]
  exact decide_eq_true hi
theorem okP_all {ops : Array Oper} {n : Nat} {all : List PS} : ∀ {l : List PS} {c : Nat}, okP ops n all c l = true → ∀ i, i < ops.size → Nat.testBit c i = true ∨ ∃ p ∈ l, p.i = i
  | [], c, h, i, hi => .inl (okP_nil h hi)
  | p :: l, c, h, i, hi => by
    rcases okP_all (okP_cons h).2.2.2.2.2 i hi with h1 | ⟨q, h1, h2⟩
    · rw [Nat.testBit_or, Bool.or_eq_true, Nat.testBit_two_pow] at h1
      rcases h1 with h1 | h1
      · exact .inl h1
      · exact .inr ⟨p, by simp, by simpa using h1⟩
    · exact .inr ⟨q, by simp [h1], h2⟩

/-- What is known of the part of the plan that has been reckoned. -/
structure Pre (ops : Array Oper) (n : Nat) (all pre : List PS) (c : Nat) : Prop where
  mem : ∀ p ∈ pre, p ∈ all
  bits : ∀ j, Nat.testBit c j = true ↔ ∃ p ∈ pre, p.i = j
  sub : ∀ p ∈ pre, ∀ j, Nat.testBit p.m j = true → Nat.testBit c j = true
  soft : ∀ p ∈ pre, clsO p.o.op < 2 → ∀ q ∈ all, q.i = p.i ∨ namesT ops p.o.dst q = false ∨ Nat.testBit q.m p.i = true
  self : ∀ p ∈ pre, clsO p.o.op < 2 → ∀ d, p.o.dst = some d → d ∉ seenBy ops p.o
  dst : ∀ p ∈ pre, ∀ d, p.o.dst = some d → d < n
theorem Pre.nil {ops : Array Oper} {n : Nat} {all : List PS} : Pre ops n all [] 0 :=
  ⟨fun _ h => (by cases h), fun j => by simp, fun _ h => (by cases h), fun _ h => (by cases h), fun _ h => (by cases h), fun _ h => (by cases h)⟩
theorem Pre.add {ops : Array Oper} {n : Nat} {all pre : List PS} {c : Nat} (h : Pre ops n all pre c) {p : PS} {l : List PS} (hp : p ∈ all) (hk : okP ops n all c (p :: l) = true) : Pre ops n all (p :: pre) (c ||| 2 ^ p.i) := by
  obtain ⟨h1, h2, h3, h4, h5, h6⟩ := okP_cons hk
  have up : ∀ j, Nat.testBit c j = true → Nat.testBit (c ||| 2 ^ p.i) j = true := fun j hj => by rw [Nat.testBit_or, hj]; rfl
  refine ⟨fun q hq => ?_, fun j => ?_, fun q hq j hj => ?_, fun q hq hc => ?_, fun q hq hc => ?_, fun q hq => ?_⟩
  · rcases List.mem_cons.1 hq with rfl | hq
    · exact hp
    · exact h.mem q hq
  · rw [Nat.testBit_or, Bool.or_eq_true, Nat.testBit_two_pow, h.bits j]
    constructor
    · rintro (⟨q, hq, e⟩ | e)
      · exact ⟨q, List.mem_cons_of_mem _ hq, e⟩
      · exact ⟨p, List.mem_cons_self, by simpa using e⟩
    · rintro ⟨q, hq, e⟩
      rcases List.mem_cons.1 hq with rfl | hq
      · exact .inr (by simpa using e)
      · exact .inl ⟨q, hq, e⟩
  · rcases List.mem_cons.1 hq with rfl | hq
    · exact up j (subM_ok h1 hj)
    · exact up j (h.sub q hq j hj)
  · rcases List.mem_cons.1 hq with rfl | hq
    · exact (h4 hc).2
    · exact h.soft q hq hc
  · rcases List.mem_cons.1 hq with rfl | hq
    · exact (h4 hc).1
    · exact h.self q hq hc
  · rcases List.mem_cons.1 hq with rfl | hq
    · exact h3
    · exact h.dst q hq

/-- An operation that was reckoned and is still to be done. -/
def LagOk (P : Program) (ops : Array Oper) (L : Nat → Bool) (p : PS) (t : Fr) (h : AH) (r : Ren) (m : Nat) (id : Option Nat) : Prop :=
  L p.i = true ∨ ∃ ts v, (∀ d ∈ seenBy ops p.o, d < 512 → ts.get d = t.get d) ∧ (∀ d, p.o.dst = some d → t.get d = v) ∧
    ((clsO p.o.op = 0 ∧ Lag0 P ops p.i p.o ts h v) ∨ (clsO p.o.op = 1 ∧ LagS P ops p.i p.o ts v) ∨ ∃ j ob, clsO p.o.op = 1 ∧ id = some j ∧ Lag1 P ops p.i p.o ts j ob v ∧ r j = none ∧ m ≤ j ∧ j < h.next ∧ ∀ o', h.get j = some o' → o' = ob)

/-- On the way through the region. -/
structure Mid (P : Program) (n m : Nat) (ops : Array Oper) (L : Nat → Bool) (pre : List PS) (D : Nat → Bool) (ids : Nat → Option Nat) (r0 : Ren) (h0 : AH) (w0 : World) (r : Ren) (t : Fr) (h : AH) (a : Act) (w : World) : Prop where
  sz : a.tmps.size = n
  le : n ≤ 512
  marks : Marks m w a.defers
  hard : ∀ p ∈ pre, ¬ clsO p.o.op < 2 → D p.i = true
  sub : ∀ i, D i = true → ∃ p ∈ pre, p.i = i
  fr : ∀ i, i < 512 → (∀ p ∈ pre, D p.i = false → p.o.dst ≠ some i) → VR r (t.get i) (a.tmps.getD i undef)
  lag : ∀ p ∈ pre, D p.i = false → LagOk P ops L p t h r h0.next (ids p.i)
  inj : ∀ p ∈ pre, ∀ q ∈ pre, D p.i = false → D q.i = false → ∀ j, ids p.i = some j → ids q.i = some j → p.i = q.i
  low : ∀ p ∈ pre, D p.i = false → ∀ j, ids p.i = some j → j < h.next
  post : Post P r0 h0 w0 r h w

section
variable {P : Program} {n m : Nat} {call : CallT} {ops : Array Oper} {L : Nat → Bool} {all pre l done : List PS} {c : Nat} {D : Nat → Bool} {ids : Nat → Option Nat} {r0 r : Ren} {h0 h : AH} {w0 w : World} {t : Fr} {a : Act} {k : KC} {x : RV}

theorem Lag0.more {o : Oper} {i : Nat} {ts : Fr} {g g' : AH} {v : AV} (h1 : Lag0 P ops i o ts g v) (hs : ∀ r w N, Rel P r ⟨g'.t, N⟩ w → Rel P r ⟨g.t, N⟩ w) : Lag0 P ops i o ts g' v :=
  fun ro Q K r a w N hr => h1 ro Q K r a w N (hs r w N hr)

/-- One more is reckoned. -/
theorem Mid.soft (hm : Mid P n m ops L pre D ids r0 h0 w0 r t h a w) (hp : Pre ops n all pre c) {p : PS} (hpa : p ∈ all) (hk : okP ops n all c (p :: l) = true) (_hinj : ∀ p ∈ all, ∀ q ∈ all, p.i = q.i → p = q) (hc : clsO p.o.op < 2) {v : AV} {h1 : AH} {id : Option Nat}
    (hh : h1 = h ∨ ∃ ob, h1 = h.new ob) (hid : id = none ∨ id = some h.next ∧ h.next < h1.next)
    (hl : L p.i = true ∨ (clsO p.o.op = 0 ∧ Lag0 P ops p.i p.o t h1 v) ∨ (clsO p.o.op = 1 ∧ LagS P ops p.i p.o t v) ∨ ∃ j ob, clsO p.o.op = 1 ∧ id = some j ∧ Lag1 P ops p.i p.o t j ob v ∧ r j = none ∧ h0.next ≤ j ∧ j < h1.next ∧ ∀ o', h1.get j = some o' → o' = ob) :
    Mid P n m ops L (p :: pre) D (fun i => if i = p.i then id else ids i) r0 h0 w0 r ((putF n p.o.dst).f t v) h1 a w := by
  obtain ⟨k1, k2, k3, k4, k5, k6⟩ := okP_cons hk
  have hnp : ∀ q ∈ pre, q.i ≠ p.i := fun q hq e => by
    have := (hp.bits p.i).2 ⟨q, hq, e⟩
    rw [this] at k2
    cases k2
  have hDp : D p.i = false := by
    cases hd : D p.i with
    | false => rfl
    | true =>
      obtain ⟨q, h1, h2⟩ := hm.sub _ hd
      exact absurd h2 (hnp q h1)
  have hnext : h.next ≤ h1.next := by
    rcases hh with rfl | ⟨ob, rfl⟩
    · exact Nat.le_refl _
    · simp
  -- an operation reckoned before names nothing that is written now
  have hnm : ∀ q ∈ pre, namesT ops p.o.dst q = false := fun q hq => by
    rcases (k4 hc).2 q (hp.mem q hq) with e | e | e
    · exact absurd e (hnp q hq)
    · exact e
    · have := hp.sub q hq _ e
      rw [this] at k2
      cases k2
  have keep : ∀ q ∈ pre, ∀ d, d < 512 → namesT ops (some d) q = true → ((putF n p.o.dst).f t v).get d = t.get d := fun q hq d hd hn => by
    refine putF_ne hm.le hd fun e => ?_
    have := hnm q hq
    rw [e, hn] at this
    cases this
  have hrel := hm.post.rel
  have hgrow : ∀ r w N, Rel P r ⟨h1.t, N⟩ w → Rel P r ⟨h.t, N⟩ w := fun r w N hr => by
    rcases hh with rfl | ⟨ob, rfl⟩
    · exact hr
    · refine hr.sub (fun i o hi => ?_) (Nat.le_refl _)
      have hi' : h.get i = some o := hi
      have := hrel.top _ _ hi'
      show (h.new ob).get i = some o
      rw [AH.get_new, if_neg (fun e => by omega)]
      exact hi'
  refine ⟨hm.sz, hm.le, hm.marks, fun q hq hnc => ?_, fun i hi => ?_, fun i hi hno => ?_, fun q hq hD => ?_, fun q hq q' hq' hD hD' j hj hj' => ?_, fun q hq hD j hj => ?_, ?_⟩
  · rcases List.mem_cons.1 hq with rfl | hq
    · exact absurd hc hnc
    · exact hm.hard q hq hnc
  · obtain ⟨q, h1, h2⟩ := hm.sub i hi
    exact ⟨q, List.mem_cons_of_mem _ h1, h2⟩
  · rw [putF_ne hm.le hi (hno p List.mem_cons_self hDp)]
    exact hm.fr i hi fun q hq hD => hno q (List.mem_cons_of_mem _ hq) hD
  · rcases List.mem_cons.1 hq with rfl | hq
    · rcases hl with hl | hl
      · exact .inl hl
      refine .inr ⟨t, v, fun d hd hd5 => ?_, fun d hd => ?_, ?_⟩
      · rw [putF_ne hm.le hd5]
        exact fun e => (k4 hc).1 d e hd
      · rw [hd]
        exact putF_eq hm.le (k3 d hd)
      · rw [if_pos rfl]
        exact hl
    · rcases hm.lag q hq hD with hL | ⟨ts, u, h2, h3, h4⟩
      · exact .inl hL
      refine .inr ⟨ts, u, fun d hd hd5 => ?_, fun d hd => ?_, ?_⟩
      · rw [keep q hq d hd5 (names_seen hd)]
        exact h2 d hd hd5
      · have := hp.dst q hq d hd
        rw [keep q hq d (Nat.lt_of_lt_of_le this hm.le) (names_dst hd)]
        exact h3 d hd
      · rw [if_neg (hnp q hq)]
        rcases h4 with ⟨h4, h5⟩ | h4 | ⟨j, ob, h4, h5, h6, h7, h8, h9, h10⟩
        · exact .inl ⟨h4, h5.more hgrow⟩
        · exact .inr (.inl h4)
        · refine .inr (.inr ⟨j, ob, h4, h5, h6, h7, h8, by omega, fun o' ho => ?_⟩)
          rcases hh with rfl | ⟨ob', rfl⟩
          · exact h10 o' ho
          · rw [AH.get_new, if_neg (fun e => by omega)] at ho
            exact h10 o' ho
  · rcases List.mem_cons.1 hq with e1 | hq1 <;> rcases List.mem_cons.1 hq' with e2 | hq2
    · rw [e1, e2]
    · rw [if_pos (by rw [e1])] at hj
      rw [if_neg (hnp q' hq2)] at hj'
      have := hm.low q' hq2 hD' j hj'
      rcases hid with e | ⟨e, -⟩
      · rw [e] at hj; cases hj
      · rw [e] at hj; cases hj; omega
    · rw [if_neg (hnp q hq1)] at hj
      rw [if_pos (by rw [e2])] at hj'
      have := hm.low q hq1 hD j hj
      rcases hid with e | ⟨e, -⟩
      · rw [e] at hj'; cases hj'
      · rw [e] at hj'; cases hj'; omega
    · rw [if_neg (hnp q hq1)] at hj
      rw [if_neg (hnp q' hq2)] at hj'
      exact hm.inj q hq1 q' hq2 hD hD' j hj hj'
  · rcases List.mem_cons.1 hq with rfl | hq
    · rw [if_pos rfl] at hj
      rcases hid with e | ⟨e, e2⟩
      · rw [e] at hj; cases hj
      · rw [e] at hj; cases hj; exact e2
    · rw [if_neg (hnp q hq)] at hj
      have := hm.low q hq hD j hj
      omega
  · rcases hh with rfl | ⟨ob, rfl⟩
    · exact hm.post
    · refine hm.post.trans ⟨hrel.new ob, r.le_refl, fun _ _ h => .inl h, by simp, Nat.le_refl _, fun _ _ _ => rfl, fun i o' q hi hq => ?_, fun i hi _ => by rw [AH.get_new, if_neg (fun e => by omega)], rfl, rfl, rfl, AH.froz_new _ _⟩
      rw [AH.get_new] at hi
      split at hi
      · rename_i e
        rw [e.1, hrel.fresh] at hq; cases hq
      · exact .inr ⟨i, o', q, hi, hq, rfl⟩
end
end Go.Proofs.YtfkdkbekmimhoaaGreatDoor
