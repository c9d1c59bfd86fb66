/- FlowBlocks: for every flow the law returns true and its argument reads as before; no condition but that the listed tables are laid, which the card ties to the text. Part 6 of 8. -/
import Derived.Test.YtlclpcobblojnaaGreatDoorBlo05
import Derived.RangeFuncLeaves
import Derived.OrdersIn
/- The machine for closed runs: every operation that calls nothing. -/
namespace Go.Proofs.YtlclpcobblojnaaGreatDoor

/-- What is shown of an operation, by its class. -/
def ClsOk (P : Program) (o : Oper) (f : OpT) : Nat → Prop
  | 0 => PlOk P o f
  | 1 => LateOk P o f
  | _ => OpOk P o f
theorem ClsOk.op {P : Program} {o : Oper} {f : OpT} : ∀ {c : Nat}, ClsOk P o f c → OpOk P o f
  | 0, h => PlOk.op h
  | 1, h => LateOk.op h
  | _ + 2, h => h
theorem fail_cls {P : Program} {o : Oper} : ∀ c : Nat, ClsOk P o failB.f c
  | 0 => fail_pl
  | 1 => fail_late
  | _ + 2 => fail_ok

theorem intLt_ok (a b : Int) : intLt a b = decide (a < b) := intLt_eq a b
theorem notLt_ok (a b : Int) : ifB (intLt b a) false true = decide (a ≤ b) := by
  rw [intLt_eq]
  by_cases h : b < a
  · rw [decide_eq_true h, ifB_t, decide_eq_false (by omega)]
  · rw [decide_eq_false h, ifB_f, decide_eq_true (by omega)]

section
variable {P : Program} {o : Oper}
theorem binOp_pl {op : BinOp} {ty ty' : TypeId} {x y : Operand} (ho : o.op = .binOp op ty x y ty') : PlOk P o (opB P o).f := by
  have hp : PlOk P o (pureC P o) := pure_ok fun cs b e => by rw [ho] at e; cases e
  unfold opB
  rw [ho]
  simp only
  split
  · exact arith_ok ho (.inl ⟨rfl, intAdd_eq⟩)
  · exact arith_ok ho (.inr ⟨rfl, intSub_eq⟩)
  · exact cmp_ok ho (.inl ⟨rfl, intLt_ok⟩)
  · exact cmp_ok ho (.inr (.inr (.inl ⟨rfl, fun a b => intLt_ok b a⟩)))
  · exact cmp_ok ho (.inr (.inl ⟨rfl, notLt_ok⟩))
  · exact cmp_ok ho (.inr (.inr (.inr ⟨rfl, fun a b => notLt_ok b a⟩)))
  · exact addStr_ok ho
  · rename_i hd
    split
    · rename_i hq
      exact eq_ok ho (eqOf_ok hd hq)
    · exact hp
  · rename_i hd
    split
    · rename_i hq
      exact ne_ok ho (eqOf_ok hd hq)
    · exact hp
  · exact hp

theorem call_op {c : Call} (ho : o.op = .call c) : ClsOk P o (opB P o).f (clsO (.call c)) := by
  obtain ⟨callee, args, argTypes⟩ := c
  cases callee with
  | value f => unfold opB; rw [ho]; exact fail_cls _
  | invoke r m => unfold opB; rw [ho]; exact fail_cls _
  | builtin b =>
    have hp : PlOk P o (pureC P o) := pure_ok fun cs b e => by rw [ho] at e; cases e
    cases b
    case len =>
      unfold opB
      rw [ho]
      simp only
      split
      · rename_i x u h1 h2
        obtain ⟨ty, h3, h4⟩ := Option.bind_eq_some_iff.1 h2
        exact len_ok ho rfl (by simpa using congrArg List.toArray h1) h3 h4 (.inl ⟨u, rfl, rfl⟩)
      · rename_i x h1 h2
        obtain ⟨ty, h3, h4⟩ := Option.bind_eq_some_iff.1 h2
        exact len_ok ho rfl (by simpa using congrArg List.toArray h1) h3 h4 (.inr (.inl ⟨rfl, rfl⟩))
      · rename_i x u v h1 h2
        obtain ⟨ty, h3, h4⟩ := Option.bind_eq_some_iff.1 h2
        exact len_ok ho rfl (by simpa using congrArg List.toArray h1) h3 h4 (.inr (.inr ⟨u, v, rfl, rfl⟩))
      · exact fail_cls _
    case append =>
      unfold opB
      rw [ho]
      simp only
      split
      · rename_i x y tx ty h1 h2
        split
        · rename_i e e' h3 h4
          split
          · rename_i s h5 h6
            split
            · rename_i h7
              exact append_ok ho rfl (by simpa using congrArg List.toArray h1) (by simpa using congrArg List.toArray h2) h3 h4 h6 h7
            · exact fail_cls _
          · exact fail_cls _
        · exact fail_cls _
      · exact fail_cls _
    all_goals (unfold opB; rw [ho]; exact hp)

theorem opB_cls (P : Program) (o : Oper) : ClsOk P o (opB P o).f (clsO o.op) := by
  cases ho : o.op
  case binOp => exact binOp_pl ho
  case call => exact call_op ho
  all_goals (unfold opB; rw [ho])
  all_goals try exact fail_cls _
  case move => exact move_ok (.inl ho)
  case assign => exact PlOk.op (move_ok (.inr ho))
  case pick => exact pick_ok ho
  case alloc =>
    simp only
    split
    · rename_i h1 h2; exact alloc_ok ho h1 h2
    · exact fail_cls _
  case box =>
    simp only
    split
    · rename_i h1; exact box_ok ho h1
    · exact fail_cls _
  case build =>
    simp only
    split
    · rename_i h1 h2
      split
      · exact fail_cls _
      · rename_i h3; exact build_ok ho h1 h2 h3
    · exact fail_cls _
  case buildSlice =>
    simp only
    split
    · rename_i h1
      split
      · rename_i h2 h3 h4
        rw [Bool.and_eq_true] at h4
        exact buildSlice_ok ho h1 h2 h3 h4.1 (Nat.le_of_ble_eq_true h4.2)
      · exact fail_cls _
    · exact fail_cls _
  case load => exact load_ok ho
  case store =>
    simp only
    split
    · rename_i h1 h2; exact store1_ok ho h2
    · rename_i h3 _; exact store_ok ho h3
    · exact fail_cls _
  case nilCheck => exact nil_ok ho
  case unOp op ty x =>
    cases op
    case not => exact not_ok ho
    all_goals exact pure_ok fun cs b e => by rw [ho] at e; cases e
  case convert =>
    simp only
    split
    · rename_i h1 h2
      split
      · rename_i h3
        split
        · rename_i h4; exact strBytes_ok ho h1 h2 h3 h4
        · exact fail_cls _
      · exact fail_cls _
    · rename_i h1 h2
      split
      · rename_i h3
        split
        · rename_i h4
          have h4 := beq_of h4
          subst h4
          rw [h1] at h2
          cases h2
          exact sameBytes_ok (e' := 0) ho h1 h3
        · exact fail_cls _
      · exact fail_cls _
    · exact PlOk.op (pure_ok fun cs b e => by rw [ho] at e; cases e)
  case makeFunc fn first cap =>
    cases fn
    case func => exact makeFunc_ok ho
    all_goals exact fail_cls _
  case makeMap ty x =>
    cases x with
    | none => exact makeMap_ok ho
    | some x =>
      simp only
      split
      · rename_i h1; exact makeMap2_ok ho h1
      · exact fail_cls _
  case makeSlice =>
    simp only
    split
    · rename_i h1
      split
      · rename_i h2 h3
        cases hs : szA P ‹_› with
        | none => simp [okRow, szA] at h3 hs; simp [hs] at h3
        | some s => exact makeSlice_ok ho h1 h2 hs h3
      · exact fail_cls _
    · exact fail_cls _
  case slice ty x lo hi mx =>
    simp only
    split
    · rename_i h1
      split
      · rename_i h2
        split
        · rename_i h3
          refine slice_ok ho h1 h2 fun e => ?_
          cases mx with
          | none => cases e
          | some m => simpa using h3
        · exact fail_cls _
      · exact fail_cls _
    · rename_i h1
      cases mx with
      | none => exact sstr_ok ho h1
      | some m => exact fail_cls _
    · exact fail_cls _
  case fieldAddr =>
    simp only
    split
    · rename_i h1
      split
      · rename_i h2
        split
        · rename_i h3; exact fieldAddr_ok ho h1 h2 h3
        · exact fail_cls _
      · exact fail_cls _
    · exact fail_cls _
  case field =>
    simp only
    split
    · rename_i h1
      split
      · rename_i h2; exact field_ok ho h1 h2
      · exact fail_cls _
    · exact fail_cls _
  case indexAddr =>
    simp only
    split
    · rename_i h1
      split
      · rename_i h2; exact indexAddr_ok ho h1 h2
      · exact fail_cls _
    · exact fail_cls _
  case index =>
    simp only
    split
    · rename_i h1; exact sindex_ok ho h1
    · exact pure_ok fun cs b e => by rw [ho] at e; cases e
  case lookup =>
    simp only
    split
    · rename_i kt e h1
      split
      · rename_i z T h2 h3
        cases hk : P.underlying kt with
        | none => rw [hk] at h3; cases h3
        | some kd =>
          rw [hk] at h3
          exact lookup_ok ho h1 hk h3 h2
      · exact fail_cls _
    · exact fail_cls _
  case mapUpdate =>
    simp only
    split
    · rename_i kt e h1
      split
      · rename_i T h3
        cases hk : P.underlying kt with
        | none => rw [hk] at h3; cases h3
        | some kd =>
          rw [hk] at h3
          exact update_ok (.inl ho) h1 hk h3
      · exact fail_cls _
    · exact fail_cls _
  case insert =>
    simp only
    split
    · rename_i kt e h1
      split
      · rename_i T h3
        cases hk : P.underlying kt with
        | none => rw [hk] at h3; cases h3
        | some kd =>
          rw [hk] at h3
          exact update_ok (.inr ho) h1 hk h3
      · exact fail_cls _
    · exact fail_cls _
  case range =>
    simp only
    split
    · rename_i h1; exact range_ok ho h1
    · exact fail_cls _
  case next it b =>
    cases b with
    | false => exact next_ok ho
    | true => exact fail_cls _
  case entry => exact entry_ok ho
  case extract => exact extract_ok ho
end
end Go.Proofs.YtlclpcobblojnaaGreatDoor
/- The machine for closed runs: calls; one operation of a region; regions in their order. -/
namespace Go.Proofs.YtlclpcobblojnaaGreatDoor

def fw (ro : Option Nat) : Fence := { Fence.wide with round := ro }

/-- A function that is there and has code. -/
def Coded (P : Program) (f : FuncId) : Prop := ∃ fn, P.funcs[f]? = some fn ∧ (fn.name == "runtime.NumGoroutine") = false ∧ fn.body.isSome = true
/-- How calls are served. -/
structure CallOk (P : Program) (call : CallT) : Prop where
  st : ∀ f xs h k x r (args : Array Value) w, call.st f xs h k = some x → Rel P r h w → VRs r xs args.toList → Coded P f ∧
    CallsIn Fence.wide 0 P f args w (fun e w' => ∃ v v' h' s, e = .returned v' ∧ k v h' = some x ∧ VR s v v' ∧ Post P r h w s h' w')
  yd : ∀ l xs h k x r p (args : Array Value) w, call.yd l xs h k = some x → Rel P r h w → r l = some p → VRs r xs args.toList → ∃ fn tmps asg body, (Instr.yield p.blk args).run P w = .ok (.round p.blk fn tmps asg body) w ∧
    RoundIn Fence.wide 0 P p.blk fn tmps asg body w (fun e w' => ∃ v v' h' s, e = .returned v' ∧ k v h' = some x ∧ VR s v v' ∧ Post P r h w s h' w')

theorem litK_eq (k : Nat → R) : ∀ (d a s n : Nat), n < 2 ^ d → litK (litT d a s) n k = k (a + s * n)
  | 0, a, s, n, h => by
    have : n = 0 := by simpa using h
    subst this
    rfl
  | d + 1, a, s, n, h => by
    have h2 : n / 2 < 2 ^ d := by rw [Nat.pow_succ] at h; omega
    have e : litK (litT (d + 1) a s) n k = ifB (Nat.beq (n % 2) 0) (litK (litT d a (2 * s)) (n / 2) k) (litK (litT d (a + s) (2 * s)) (n / 2) k) := rfl
    rw [e, litK_eq k d _ _ _ h2, litK_eq k d _ _ _ h2]
    rcases Nat.mod_two_eq_zero_or_one n with h0 | h0
    · rw [h0]
      show k _ = k _
      congr 2
      have : n = 2 * (n / 2) := by omega
      rw [this]
      simp only [Nat.mul_div_cancel_left _ (by omega : 0 < 2)]
      rw [← Nat.mul_assoc, Nat.mul_comm s 2]
    · rw [h0]
      show k _ = k _
      congr 1
      have : n = 2 * (n / 2) + 1 := by omega
      generalize n / 2 = m at *
      subst this
      rw [Nat.mul_add, Nat.mul_one, ← Nat.mul_assoc, Nat.mul_comm s 2]
      omega

section
variable {P : Program}
theorem run_callFunc {f : FuncId} (hc : Coded P f) (args : Array Value) (w : World) : (callFunc f args).run P w = .ok (.enter f args) w := by
  obtain ⟨fn, h1, h2, h3⟩ := hc
  have h4 : fn.body.isNone = false := by
    cases hb : fn.body with
    | none => rw [hb] at h3; cases h3
    | some c => rfl
  have h2' : ¬ fn.name = "runtime.NumGoroutine" := by simpa using h2
  have h5 : ¬ fn.body = none := fun e => by rw [e] at h4; cases h4
  simp [callFunc, h1, h2', h5]

/-- What a call comes to. -/
def CallRes (P : Program) (w : World) (R : Ending → World → Prop) : Next → Prop
  | .enter f args => CallsIn Fence.wide 0 P f args w R
  | .round l f tmps asg body => RoundIn Fence.wide 0 P l f tmps asg body w R
  | _ => False
/-- A call of a value. -/
theorem valK_ok {call : CallT} (hc : CallOk P call) {f : AV} {fv : Value} {xs : List AV} {args : Array Value} {h : AH} {k : KV} {x : AV × AH} {r : Ren} {w : World} (hf : valK call f xs h k = some x) (hr : Rel P r h w) (hv : VR r f fv) (hx : VRs r xs args.toList) :
    ∃ d nx, (Deferred.ofValue fv args).run P w = .ok d w ∧ (invoke d.target d.args).run P w = .ok nx w ∧
      CallRes P w (fun e w' => ∃ v v' h' s, e = .returned v' ∧ k v h' = some x ∧ VR s v v' ∧ Post P r h w s h' w') nx ∧ (Nat.beq f.a 1 = true → ∃ g as', nx = .enter g as') := by
  unfold valK at hf
  obtain ⟨h1, hf⟩ := ifB_some hf
  have h1 := beq_of h1
  cases h2 : Nat.beq f.a 1 with
  | true =>
    rw [h2, ifB_t] at hf
    obtain ⟨h3, hf⟩ := ifB_some hf
    have h3 := Nat.le_of_ble_eq_true h3
    rw [litK_eq _ 9 0 1 f.b (by omega), Nat.zero_add, Nat.one_mul] at hf
    obtain ⟨a, b, rfl, h5, h6⟩ := hv.inv6 h1 (beq_of h2)
    have ha : VRs r (f.l.take f.c ++ xs ++ f.l.drop f.c) ((a ++ args ++ b).toList) := by
      have e1 := h6.take f.c
      have e2 := h6.drop f.c
      rw [h5] at e1 e2
      have e3 : (a.toList ++ b.toList).take a.size = a.toList := by simp
      have e4 : (a.toList ++ b.toList).drop a.size = b.toList := by simp
      rw [e3] at e1
      rw [e4] at e2
      rw [h5]
      simpa using (e1.append hx).append e2
    have hcall : call.st f.b (f.l.take f.c ++ xs ++ f.l.drop f.c) h k = some x := by
      cases h7 : Nat.beq f.c 0 with
      | true =>
        rw [h7, ifB_t] at hf
        rw [beq_of h7]
        simpa using hf
      | false => rw [h7, ifB_f] at hf; exact hf
    obtain ⟨h8, h9⟩ := hc.st _ _ _ _ _ _ _ _ hcall hr ha
    refine ⟨{ target := .fn (.func f.b) b, args := a ++ args }, .enter f.b (a ++ args ++ b), by simp [Deferred.ofValue], ?_, h9, fun _ => ⟨_, _, rfl⟩⟩
    simp [invoke, run_callFunc h8]
  | false =>
    rw [h2, ifB_f] at hf
    obtain ⟨h3, hf⟩ := ifB_some hf
    obtain ⟨p, h4, rfl⟩ := hv.inv6y h1 (beq_of h3)
    obtain ⟨fn, tmps, asg, body, h5, h6⟩ := hc.yd _ _ _ _ _ _ _ _ _ hf hr h4 hx
    refine ⟨{ target := .fn (.yield p.blk) #[], args := #[] ++ args }, .round p.blk fn tmps asg body, by simp [Deferred.ofValue], ?_, h6, fun e => by cases e⟩
    simp only [invoke, Array.empty_append]
    exact h5

/-- The temporaries after a value is put. -/
theorem put_ok {r : Ren} {t : Fr} {a : Act} {n : Nat} {d : Option Tmp} {v : AV} {v' : Value} (hn : n ≤ 512) (hs : a.tmps.size = n) {i : Nat} (hi : i < 512) (hv : VR r v v') (h : d = some i ∨ VR r (t.get i) (a.tmps.getD i undef)) (h0 : d = some i → VR r (t.get i) (a.tmps.getD i undef) ∨ i < n) :
    VR r (((putF n d).f t v).get i) ((a.put d v').tmps.getD i undef) := by
  cases d with
  | none =>
    rcases h with h | h
    · cases h
    · exact h
  | some d =>
    unfold putF
    simp only [Act.put]
    cases hd : Nat.blt d n with
    | true =>
      have hd : @LT.lt Nat _ d n := Nat.le_of_ble_eq_true hd
      rw [setF_get hi (by omega)]
      by_cases e : i = d
      · subst e
        rw [if_pos rfl]
        simpa [hs, hd] using hv
      · rw [if_neg e]
        rcases h with h | h
        · cases h; exact absurd rfl e
        · simpa [Array.getD_eq_getD_getElem?, Array.getElem?_setIfInBounds_ne (Ne.symm e)] using h
    | false =>
      have hd : ¬ @LT.lt Nat _ d n := fun e => by rw [show Nat.blt d n = true from Nat.ble_eq_true_of_le e] at hd; cases hd
      have e : a.tmps.setIfInBounds d v' = a.tmps := Array.setIfInBounds_eq_of_size_le (by omega)
      rw [e]
      rcases h with h | h
      · rcases h0 h with h | h1
        · exact h
        · cases h; exact absurd h1 hd
      · exact h
theorem put_size {a : Act} {d : Option Tmp} {v : Value} : (a.put d v).tmps.size = a.tmps.size := by
  cases d <;> simp [Act.put]
theorem put_defers {a : Act} {d : Option Tmp} {v : Value} : (a.put d v).defers = a.defers := by
  cases d <;> rfl
theorem FrR.put {r s : Ren} {t : Fr} {a : Act} {n : Nat} {v : AV} {v' : Value} (h : FrR r t a.tmps) (hle : r.le s) (hn : n ≤ 512) (hs : a.tmps.size = n) (d : Option Tmp) (hv : VR s v v') : FrR s ((putF n d).f t v) (a.put d v').tmps :=
  fun i hi => put_ok hn hs hi hv (.inr ((h i hi).mono hle)) fun _ => .inl ((h i hi).mono hle)

variable {n : Nat} {call : CallT} {t : Fr} {h : AH} {k : KC} {x : AV × AH} {r : Ren} {a : Act} {w : World} {o : Oper} {rest : Bx CodeT} {ro : Option Nat} {Q : Exit → Act → World → Prop} {K : Act → World → Prop}

theorem evs_args {args : Array Operand} (he : ∀ y ∈ args.toList, VR r ((evB y).f t) (a.eval y)) : VRs r ((evsB args.toList).f t) (args.map a.eval).toList := by
  have := evs_ok (r := r) (t := t) (a := a) (xs := args.toList) he
  simpa using this

/-- A call's result is put, and on. -/
theorem call_res {nx : Next} {kv : KV}
    (hres : CallRes P w (fun e w' => ∃ v v' h' s, e = .returned v' ∧ kv v h' = some x ∧ VR s v v' ∧ Post P r h w s h' w') nx)
    (hK : ∀ v v' s h' w', kv v h' = some x → VR s v v' → Post P r h w s h' w' → K (a.put o.dst v') w') :
    o.uponIn (fw ro) 0 P a K Q (.ok nx w) := by
  cases nx with
  | enter f args =>
    refine ⟨(fun e => by cases e), CallsIn.mono (F := fw ro) (R := fun e w' => ∃ v v' h' s, e = .returned v' ∧ kv v h' = some x ∧ VR s v v' ∧ Post P r h w s h' w') hres fun e w' he => ?_⟩
    obtain ⟨v, v', h', s, rfl, h1, h2, h3⟩ := he
    exact hK _ _ _ _ _ h1 h2 h3
  | round l f tmps asg body =>
    refine ⟨(fun e => by cases e), RoundIn.mono (F := fw ro) (R := fun e w' => ∃ v v' h' s, e = .returned v' ∧ kv v h' = some x ∧ VR s v v' ∧ Post P r h w s h' w') hres fun e w' he => ?_⟩
    obtain ⟨v, v', h', s, rfl, h1, h2, h3⟩ := he
    exact hK _ _ _ _ _ h1 h2 h3
  | _ => exact hres.elim

/-- One operation. -/
theorem one_ok (hc : CallOk P call) (hf : (oneB P n o rest).f call t h k = some x) (hr : Rel P r h w) (he : EvOk r t a o.op.operands.toList)
    (hK : ∀ v v' s h' w', rest.f call ((putF n o.dst).f t v) h' k = some x → VR s v v' → Post P r h w s h' w' → K (a.put o.dst v') w') : o.wpIn (fw ro) 0 P a w K Q := by
  refine ⟨fun _ _ => trivial, ?_⟩
  unfold oneB at hf
  split at hf
  · rename_i f args ats ho
    rw [Oper.semAt_eq _ _ _ (fun c e => by rw [ho] at e; cases e)]
    have hx := evs_args (r := r) (t := t) (a := a) (args := args) fun y hy => he y (by simp [ho, Op.operands, Call.operands]; exact .inr (by simpa using hy))
    obtain ⟨h1, h2⟩ := hc.st _ _ _ _ _ _ _ _ hf hr hx
    have : (execOp a.eval o).run P w = .ok (.enter f (args.map a.eval)) w := by
      simp [execOp, ho, resolve, Act.eval, Deferred.ofValue, invoke, run_callFunc h1]
    rw [this]
    exact call_res (nx := .enter f (args.map a.eval)) h2 hK
  · rename_i f args ats hnf ho
    rw [Oper.semAt_eq _ _ _ (fun c e => by rw [ho] at e; cases e)]
    have hx := evs_args (r := r) (t := t) (a := a) (args := args) fun y hy => he y (by simp [ho, Op.operands, Call.operands]; exact .inr (by simpa using hy))
    obtain ⟨d, nx, h1, h2, h3, -⟩ := valK_ok hc hf hr (he f (by simp [ho, Op.operands, Call.operands])) hx
    have : (execOp a.eval o).run P w = .ok nx w := by
      simp [execOp, ho, resolve, h1, h2]
    rw [this]
    exact call_res h3 hK
  · have hnd : ∀ c, o.op ≠ .defer c := fun c e => by
      have : (opB P o).f t h (fun v h => rest.f call ((putF n o.dst).f t v) h k) = some x := hf
      unfold opB at this
      rw [e] at this
      cases this
    rw [Oper.semAt_eq _ _ _ hnd]
    obtain ⟨v, h', h1, s, w', v', h2, h3, h4⟩ := (opB_cls P o).op t h _ x r a w hf hr he
    rcases h2 with h2 | ⟨h2, rfl⟩
    · rw [h2]; exact hK _ _ _ _ _ h1 h3 h4
    · rw [h2]; exact hK _ _ _ _ _ h1 h3 h4

/-- One operation of a region, with its guard. -/
theorem step_ok {ops : Array Oper} {i : Nat} (hc : CallOk P call) (ho : ops[i]? = some o) (hf : (stepB P n ops o rest).f call t h k = some x) (hr : Rel P r h w) (he : EvOk r t a o.op.operands.toList)
    (hg : ∀ j want d, o.guard = some (j, want) → (ops[j]?).bind (·.dst) = some d → VR r ((evB (.tmp d)).f t) (a.eval (.tmp d)))
    (hK : ∀ v v' s h' w', rest.f call ((putF n o.dst).f t v) h' k = some x → VR s v v' → Post P r h w s h' w' → K (a.put o.dst v') w') : wpOpIn (fw ro) 0 P ops Q i K a w := by
  unfold wpOpIn
  simp only [ho]
  have hskip : rest.f call ((putF n o.dst).f t .undef) h k = some x → (∀ f, o.about P w a.eval = some f → (fw ro).fn f) ∧ K (a.put o.dst undef) w := fun hs => ⟨fun _ _ => trivial, hK _ _ _ _ _ hs VR.undef (Post.refl hr)⟩
  unfold stepB at hf
  split at hf
  · rename_i hgd
    have : Region.wanted o (yielded ops a.tmps) = true := by simp [Region.wanted, hgd]
    rw [if_pos this]
    exact one_ok hc hf hr he hK
  · rename_i j want hgd
    have hwt : Region.wanted o (yielded ops a.tmps) = (yielded ops a.tmps j == some want) := by simp [Region.wanted, hgd]
    rw [hwt]
    split at hf
    · rename_i d hd
      have hv := hg j want d hgd hd
      have hy : yielded ops a.tmps j = match a.eval (.tmp d) with | .bool b => some b | _ => none := by
        simp [yielded, hd, Act.eval]
        cases a.tmps[d]? with
        | none => rfl
        | some u => cases u <;> rfl
      have hf' : ifB (Nat.beq ((evB (.tmp d)).f t).tag 1) (ifB (Nat.beq ((evB (.tmp d)).f t).a want.toNat) ((oneB P n o rest).f call t h k) ((skipC (putF n o.dst).f rest.f) call t h k)) (ifB (Nat.beq ((evB (.tmp d)).f t).tag 8) ((skipC (putF n o.dst).f rest.f) call t h k) none) = some x := hf
      cases h1 : Nat.beq ((evB (.tmp d)).f t).tag 1 with
      | true =>
        rw [h1, ifB_t] at hf'
        obtain ⟨b, h2, h3⟩ := hv.inv1 (beq_of h1)
        rw [hy, h2]
        cases h4 : Nat.beq ((evB (.tmp d)).f t).a want.toNat with
        | true =>
          rw [h4, ifB_t] at hf'
          have : b = want := by
            have := h3.symm.trans (beq_of h4)
            cases b <;> cases want <;> first | rfl | cases this
          subst this
          simp only [beq_self_eq_true, if_true]
          exact one_ok hc hf' hr he hK
        | false =>
          rw [h4, ifB_f] at hf'
          have : b ≠ want := by
            rintro rfl
            rw [h3] at h4
            rw [Nat.beq_refl] at h4
            cases h4
          have : (some b == some want) = false := by cases b <;> cases want <;> first | rfl | exact absurd rfl this
          simp only [this]
          exact hskip hf'
      | false =>
        rw [h1, ifB_f] at hf'
        obtain ⟨h5, hf'⟩ := ifB_some hf'
        obtain ⟨cs, h6, -⟩ := hv.inv8 (beq_of h5)
        have : (yielded ops a.tmps j == some want) = false := by rw [hy, h6]; rfl
        simp only [this]
        exact hskip hf'
    · rename_i hd
      have : (yielded ops a.tmps j == some want) = false := by
        have : yielded ops a.tmps j = none := by simp [yielded, hd]
        rw [this]
        rfl
      simp only [this]
      exact hskip hf
end
end Go.Proofs.YtlclpcobblojnaaGreatDoor
/- The machine for closed runs: code. -/
namespace Go.Proofs.YtlclpcobblojnaaGreatDoor

/-- The marks of the loops over functions that an activation has entered. -/
inductive Marks (m : Nat) (w : World) : List Deferred → Prop
  | nil : Marks m w []
  | cons {b : Nat} {ds : List Deferred} (hb : m ≤ b) (h : w.heap[b]? = some (.deferred (some []))) (hn : ∀ d ∈ ds, d.target ≠ .collected b) (t : Marks m w ds) : Marks m w ({ target := .collected b, args := #[] } :: ds)

theorem ObR.no_mark {P : Program} {r : Ren} {p : Pl} {w : World} {o : OB} (h : ObR P r p w o) {d : Option (List Deferred)} (hd : w.heap[p.blk]? = some (.deferred d)) : False := by
  cases h with
  | arr h1 _ _ _ _ _ => rw [h1] at hd; cases hd
  | map h1 _ _ => rw [h1] at hd; cases hd
  | lit h1 _ _ _ _ => rw [h1] at hd; cases hd
  | iter h1 _ _ => rw [h1] at hd; cases hd
  | loop h1 _ _ _ _ _ _ _ => rw [h1] at hd; cases hd
theorem Post.marked {P : Program} {r s : Ren} {h h' : AH} {w w' : World} (hp : Post P r h w s h' w') (hr : Rel P r h w) {b : Nat} {d : Option (List Deferred)} (hb : w.heap[b]? = some (.deferred d)) : w'.heap[b]? = some (.deferred d) := by
  rw [hp.frame b (Array.getElem?_eq_some_iff.1 hb).1 fun i o p h1 h2 e => (hr.live i o p h1 h2).no_mark (e ▸ hb)]
  exact hb
theorem Marks.step {P : Program} {m : Nat} {r s : Ren} {h h' : AH} {w w' : World} (hp : Post P r h w s h' w') (hr : Rel P r h w) : ∀ {ds : List Deferred}, Marks m w ds → Marks m w' ds
  | _, .nil => .nil
  | _, .cons h0 h1 h2 t => .cons h0 (hp.marked hr h1) h2 (Marks.step hp hr t)

/-- An activation as the machine has it. -/
structure St (P : Program) (n m : Nat) (r : Ren) (t : Fr) (h : AH) (a : Act) (w : World) : Prop where
  fr : FrR r t a.tmps
  sz : a.tmps.size = n
  le : n ≤ 512
  rel : Rel P r h w
  marks : Marks m w a.defers
  low : m ≤ w.heap.size

def exitOf : Nat → Nat → Exit
  | 0, _ => .normal
  | 1, o => .exit o
  | _, _ => .ret
/-- How code ends. -/
def After (P : Program) (n m : Nat) (k : KC) (x : AV × AH) (r : Ren) (h : AH) (w : World) (e : Exit) (a : Act) (w' : World) : Prop :=
  ∃ y o t' h' s, k y o t' h' = some x ∧ e = exitOf y o ∧ St P n m s t' h' a w' ∧ Post P r h w s h' w'

section
variable {P : Program} {n m : Nat} {call : CallT} {x : AV × AH} {ro : Option Nat}
theorem After.trans {k : KC} {r s : Ren} {h h' : AH} {w w' w'' : World} {e : Exit} {a : Act} (hp : Post P r h w s h' w') : After P n m k x s h' w' e a w'' → After P n m k x r h w e a w''
  | ⟨y, o, t', h2, s2, h3, h4, h5, h6⟩ => ⟨y, o, t', h2, s2, h3, h4, h5, hp.trans h6⟩
theorem St.step {r s : Ren} {t : Fr} {h h' : AH} {a : Act} {w w' : World} (hs : St P n m r t h a w) (hp : Post P r h w s h' w') (d : Option Tmp) {v : AV} {v' : Value} (hv : VR s v v') : St P n m s ((putF n d).f t v) h' (a.put d v') w' :=
  ⟨hs.fr.put hp.ext hs.le hs.sz d hv, put_size.trans hs.sz, hs.le, hp.rel, by rw [put_defers]; exact hs.marks.step hp hs.rel, Nat.le_trans hs.low hp.size⟩

/-- A region in its order. -/
theorem ops_ok (hc : CallOk P call) {k : KC} {ops : Array Oper} {Q : Exit → Act → World → Prop} : ∀ (l : List Oper) (i0 : Nat), (∀ j, l[j]? = ops[i0 + j]?) → ∀ (t : Fr) (h : AH) (r : Ren) (a : Act) (w : World), (opsB P n ops l).f call t h k = some x → St P n m r t h a w →
    (∀ e a' w', After P n m k x r h w e a' w' → Q e a' w') → wpOpsIn (fw ro) 0 P ops Q (List.range' i0 l.length) a w
  | [], i0, hl, t, h, r, a, w, hf, hs, hQ => hQ _ _ _ ⟨0, 0, t, h, r, hf, rfl, hs, Post.refl hs.rel⟩
  | o :: l, i0, hl, t, h, r, a, w, hf, hs, hQ => by
    rw [List.length_cons, List.range'_succ, wpOpsIn_cons]
    refine step_ok hc (by have := hl 0; simpa using this.symm) hf hs.rel (EvOk.of hs.fr _) (fun j want d _ _ => evB_ok hs.fr _) fun v v' s h' w' h1 h2 h3 => ?_
    exact ops_ok hc l (i0 + 1) (fun j => by have := hl (j + 1); simpa [Nat.add_assoc, Nat.add_comm 1 j] using this) _ _ _ _ _ h1 (hs.step h3 _ h2) fun e a' w'' ha => hQ e a' w'' (ha.trans h3)

theorem region_ok (hc : CallOk P call) {k : KC} {ops : Array Oper} {id : Nat} {t : Fr} {h : AH} {r : Ren} {a : Act} {w : World} (hf : (opsB P n ops ops.toList).f call t h k = some x) (hs : St P n m r t h a w) :
    (Code.region id ops false).wpIn (fw ro) 0 P (After P n m k x r h w) a w := by
  refine wpIn_region ?_
  have := ops_ok (ro := ro) (Q := After P n m k x r h w) hc ops.toList 0 (fun j => by simp) t h r a w hf hs fun _ _ _ h => h
  rw [List.range_eq_range']
  simpa using this

/-- The least of numbers. -/
theorem least {p : Nat → Prop} (h : ∃ m, p m) : ∃ m, p m ∧ ∀ j, p j → m ≤ j := by
  obtain ⟨m, hm⟩ := h
  induction m using Nat.strongRecOn with
  | _ m ih =>
    by_cases hj : ∃ j, j < m ∧ p j
    · obtain ⟨j, h1, h2⟩ := hj
      exact ih j h1 h2
    · exact ⟨m, hm, fun j hp => Nat.le_of_not_lt fun hlt => hj ⟨j, hlt, hp⟩⟩
open Classical in
noncomputable def leastOf (p : Nat → Prop) : Nat := if h : ∃ m, p m then Classical.choose (least h) else 0
theorem leastOf_spec {p : Nat → Prop} (h : ∃ m, p m) : p (leastOf p) ∧ ∀ j, p j → leastOf p ≤ j := by
  unfold leastOf
  rw [dif_pos h]
  exact Classical.choose_spec (least h)

theorem loop_ok {c : Code} {f : CodeT} {k : KC} {t : Fr} {h : AH} {r : Ren} {a : Act} {w : World}
    (ih : ∀ (t : Fr) (h : AH) (k : KC) (r : Ren) (a : Act) (w : World), f call t h k = some x → St P n m r t h a w → c.wpIn (fw ro) 0 P (After P n m k x r h w) a w)
    (hf : loopC f call t h k = some x) (hs : St P n m r t h a w) : (Code.loop c).wpIn (fw ro) 0 P (After P n m k x r h w) a w := by
  let p : Act → World → Nat → Prop := fun a' w' j => ∃ t' h' s, loopK none (fun t h k => f call t h k) j t' h' k = some x ∧ St P n m s t' h' a' w' ∧ Post P r h w s h' w'
  refine wpIn_loop (fun a' w' => ∃ j, p a' w' j) (fun a' w' => leastOf (p a' w')) ⟨100000, t, h, r, hf, hs, Post.refl hs.rel⟩ fun a' w' hI => ?_
  obtain ⟨⟨t', h', s, h1, h2, h3⟩, -⟩ := leastOf_spec hI
  cases hm : leastOf (p a' w') with
  | zero => rw [hm] at h1; cases h1
  | succ j =>
    rw [hm] at h1
    refine wpIn_mono (ih t' h' _ s a' w' h1 h2) fun e a2 w2 he => ?_
    obtain ⟨y, o, t2, h4, s2, h5, rfl, h6, h7⟩ := he
    have h5 : ifB (Nat.beq y 0) (loopK none (fun t h k => f call t h k) j t2 h4 k) (k y o t2 h4) = some x := h5
    cases hy : Nat.beq y 0 with
    | true =>
      rw [hy, ifB_t] at h5
      have := beq_of hy
      subst this
      have hp : p a2 w2 j := ⟨t2, h4, s2, h5, h6, h3.trans h7⟩
      exact ⟨⟨j, hp⟩, Nat.lt_succ_of_le ((leastOf_spec ⟨j, hp⟩).2 j hp)⟩
    | false =>
      rw [hy, ifB_f] at h5
      have hq : After P n m k x r h w (exitOf y o) a2 w2 := ⟨y, o, t2, h4, s2, h5, rfl, h6, h3.trans h7⟩
      match y, hy, hq with
      | 0, hy, _ => cases hy
      | 1, _, hq => exact hq
      | _ + 2, _, hq => exact hq

/-- How code is shown to be done: for a fence of rounds too. -/
def CodeOk (P : Program) (n : Nat) (call : CallT) (c : Code) (f : CodeT) (rd : Bool) : Prop :=
  ∀ (ro : Option Nat) (m : Nat) (t : Fr) (h : AH) (k : KC) (x : AV × AH) (r : Ren) (a : Act) (w : World), (rd = false → ro = none) → f call t h k = some x → St P n m r t h a w → c.wpIn (fw ro) 0 P (After P n m k x r h w) a w

theorem block_ok {rd : Bool} {id : Nat} {b : Code} {bb : Bx CodeT} (ih : CodeOk P n call b bb.f rd) : CodeOk P n call (.block id b) (blockC id bb.f) rd := by
    intro ro m t h k x r a w hro hf hs
    refine wpIn_block (wpIn_mono (ih ro m t h _ x r a w hro hf hs) fun e a' w' he => ?_)
    obtain ⟨y, o, t', h', s, h1, rfl, h2, h3⟩ := he
    have h1 : ifB (Nat.beq y 1) (ifB (Nat.beq o id) (k 0 0 t' h') (k y o t' h')) (k y o t' h') = some x := h1
    cases hy : Nat.beq y 1 with
    | true =>
      rw [hy, ifB_t] at h1
      have := beq_of hy
      subst this
      show Exit.inBlock id _ (.exit o) a' w'
      cases ho : Nat.beq o id with
      | true =>
        rw [ho, ifB_t] at h1
        simp only [Exit.inBlock, beq_of ho, if_true]
        exact ⟨0, 0, t', h', s, h1, rfl, h2, h3⟩
      | false =>
        rw [ho, ifB_f] at h1
        have : o ≠ id := fun e => by rw [e, Nat.beq_refl] at ho; cases ho
        simp only [Exit.inBlock, this, if_false]
        exact ⟨1, o, t', h', s, h1, rfl, h2, h3⟩
    | false =>
      rw [hy, ifB_f] at h1
      have hq : After P n m k x r h w (exitOf y o) a' w' := ⟨y, o, t', h', s, h1, rfl, h2, h3⟩
      match y, hy, hq with
      | 0, _, hq => exact hq
      | 1, hy, _ => cases hy
      | _ + 2, _, hq => exact hq
theorem code_ok {rd : Bool} {blk : Nat → Code → Bx CodeT → Bx CodeT} (hc : CallOk P call) (hb : ∀ id b bb, CodeOk P n call b bb.f rd → CodeOk P n call (.block id b) (blk id b bb).f rd) (hd : ∀ (id : Nat) (ops : Array Oper), CodeOk P n call (.region id ops true) (drawB P n ops).f rd)
    (hrf : ∀ (g : Operand) (ps : Array Tmp) (asg body : Code), CodeOk P n call (.rangeFunc g ps asg body) (rangeFC n (evB g).f ps.toList asg body) false) : ∀ c : Code, CodeOk P n call c (codeG P n rd blk c).f rd := by
  intro c
  induction c with
  | skip => exact fun ro m t h k x r a w hro hf hs => wpIn_skip ⟨0, 0, t, h, r, hf, rfl, hs, Post.refl hs.rel⟩
  | exit id => exact fun ro m t h k x r a w hro hf hs => wpIn_exit ⟨1, id, t, h, r, hf, rfl, hs, Post.refl hs.rel⟩
  | ret => exact fun ro m t h k x r a w hro hf hs => wpIn_ret ⟨2, 0, t, h, r, hf, rfl, hs, Post.refl hs.rel⟩
  | region id ops d =>
    cases d with
    | false => exact fun ro m t h k x r a w hro hf hs => region_ok hc hf hs
    | true => exact hd id ops
  | seq b c ihb ihc =>
    intro ro m t h k x r a w hro hf hs
    refine wpIn_seq (wpIn_mono (ihb ro m t h _ x r a w hro hf hs) fun e a' w' he => ?_)
    obtain ⟨y, o, t', h', s, h1, rfl, h2, h3⟩ := he
    have h1 : ifB (Nat.beq y 0) ((codeG P n rd blk c).f call t' h' k) (k y o t' h') = some x := h1
    cases hy : Nat.beq y 0 with
    | true =>
      rw [hy, ifB_t] at h1
      have := beq_of hy
      subst this
      exact wpIn_mono (ihc ro m t' h' k x s a' w' hro h1 h2) fun e a2 w2 he => he.trans h3
    | false =>
      rw [hy, ifB_f] at h1
      have hq : After P n m k x r h w (exitOf y o) a' w' := ⟨y, o, t', h', s, h1, rfl, h2, h3⟩
      match y, hy, hq with
      | 0, hy, _ => cases hy
      | 1, _, hq => exact hq
      | _ + 2, _, hq => exact hq
  | cond c b1 b2 ih1 ih2 =>
    intro ro m t h k x r a w hro hf hs
    have hf : ifB (Nat.beq ((evB c).f t).tag 1) (ifB (Nat.beq ((evB c).f t).a 1) ((codeG P n rd blk b1).f call t h k) ((codeG P n rd blk b2).f call t h k)) none = some x := hf
    obtain ⟨h1, hf⟩ := ifB_some hf
    obtain ⟨b, h2, h3⟩ := (evB_ok hs.fr c).inv1 (beq_of h1)
    rw [h3] at hf
    cases b with
    | true => exact wpIn_cond_true h2 (ih1 ro m t h k x r a w hro hf hs)
    | false => exact wpIn_cond_false h2 (ih2 ro m t h k x r a w hro hf hs)
  | block id b ih => exact hb id b _ ih
  | loop b ih => exact fun ro m t h k x r a w hro hf hs => loop_ok (fun t h k r a w => ih ro m t h k x r a w hro) hf hs
  | rangeFunc g ps asg body _ _ =>
    cases rd with
    | false => exact hrf g ps asg body
    | true => exact fun ro m t h k x r a w hro hf hs => by cases hf
  | _ => exact fun ro m t h k x r a w hro hf hs => by cases hf
end
end Go.Proofs.YtlclpcobblojnaaGreatDoor
/- The machine for closed runs: the plan of a region that draws its order. -/
namespace Go.Proofs.YtlclpcobblojnaaGreatDoor

theorem avEqB_ok {x y : AV} {l : Bool} (h : avEqB x y l = true) : x.tag = y.tag ∧ x.a = y.a ∧ x.b = y.b ∧ x.c = y.c ∧ x.d = y.d ∧ x.e = y.e ∧ x.i = y.i ∧ x.s = y.s ∧ l = true := by
  have ib : ∀ {b c : Bool}, ifB b c false = true → b = true ∧ c = true := fun {b c} h => by cases b <;> cases c <;> first | exact ⟨rfl, rfl⟩ | cases h
  obtain ⟨h1, h⟩ := ib h
  obtain ⟨h2, h⟩ := ib h
  obtain ⟨h3, h⟩ := ib h
  obtain ⟨h4, h⟩ := ib h
  obtain ⟨h5, h⟩ := ib h
  obtain ⟨h6, h⟩ := ib h
  obtain ⟨h7, h⟩ := ib h
  obtain ⟨h8, h⟩ := ib h
  rw [intEq_eq] at h7
  exact ⟨beq_of h1, beq_of h2, beq_of h3, beq_of h4, beq_of h5, beq_of h6, eq_of_beq h7, strEq_iff.1 h8, h⟩
theorem AV.ext' {x y : AV} (h1 : x.tag = y.tag ∧ x.a = y.a ∧ x.b = y.b ∧ x.c = y.c ∧ x.d = y.d ∧ x.e = y.e ∧ x.i = y.i ∧ x.s = y.s) (h2 : x.l = y.l) : x = y := by
  cases x; cases y; simp_all
theorem avEq1_ok {x y : AV} (h : avEq1 x y = true) : x = y := by
  obtain ⟨h1, h2, h3, h4, h5, h6, h7, h8, h9⟩ := avEqB_ok h
  refine AV.ext' ⟨h1, h2, h3, h4, h5, h6, h7, h8⟩ ?_
  cases hx : x.l <;> cases hy : y.l <;> rw [hx, hy] at h9 <;> first | rfl | cases h9
theorem avsEq_ok {eq : AV → AV → Bool} (he : ∀ {x y}, eq x y = true → x = y) : ∀ {l m : List AV}, avsEq eq l m = true → l = m
  | [], [], _ => rfl
  | [], _ :: _, h => by cases h
  | _ :: _, [], h => by cases h
  | a :: l, b :: m, h => by
    have h : ifB (eq a b) (avsEq eq l m) false = true := h
    cases h1 : eq a b with
    | true => rw [h1, ifB_t] at h; rw [he h1, avsEq_ok he h]
    | false => rw [h1] at h; cases h
theorem avEqN_ok {eq : AV → AV → Bool} (he : ∀ {x y}, eq x y = true → x = y) {x y : AV} (h : avEqB x y (avsEq eq x.l y.l) = true) : x = y := by
  obtain ⟨h1, h2, h3, h4, h5, h6, h7, h8, h9⟩ := avEqB_ok h
  exact AV.ext' ⟨h1, h2, h3, h4, h5, h6, h7, h8⟩ (avsEq_ok he h9)
theorem avEq_ok {x y : AV} (h : avEq x y = true) : x = y := avEqN_ok (avEqN_ok (avEqN_ok avEq1_ok)) h

/-! ### Masks -/
theorem subM_ok {m c : Nat} (h : subM m c = true) {j : Nat} (hj : Nat.testBit m j = true) : Nat.testBit c j = true := by
  have h1 : m &&& c = m := beq_of h
  rw [← h1, Nat.testBit_and, Bool.and_eq_true] at hj
  exact hj.2

/-- What is done is shut under what must lie ahead. -/
def Shut (D : Nat → Bool) (acc : List Nat) : Prop := ∀ i m, acc[i]? = some m → D i = true → ∀ j, Nat.testBit m j = true → D j = true
def Ahead (D : Nat → Bool) (o : Oper) : Prop := ∀ e ∈ o.after, Region.binds .any e = true → D e.on = true
theorem mask_ok {D : Nat → Bool} {acc : List Nat} (hs : Shut D acc) : ∀ (es : List Edge), (∀ e ∈ es, Region.binds .any e = true → D e.on = true) → ∀ j, Nat.testBit (maskE acc es) j = true → D j = true
  | [], _, j, hj => by simp [maskE] at hj
  | e :: es, h, j, hj => by
    unfold maskE at hj
    cases hb : Region.binds .any e with
    | false =>
      rw [hb] at hj
      exact mask_ok hs es (fun e' he' => h e' (by simp [he'])) j hj
    | true =>
      rw [hb] at hj
      simp only [Nat.testBit_or, Bool.or_eq_true] at hj
      have he := h e (by simp) hb
      rcases hj with hj | hj | hj
      · rw [Nat.testBit_two_pow] at hj
        have : e.on = j := by simpa using hj
        rw [← this]
        exact he
      · cases hg : acc[e.on]? with
        | none => simp [List.getD_eq_getElem?_getD, hg] at hj
        | some m =>
          have : acc.getD e.on 0 = m := by simp [List.getD_eq_getElem?_getD, hg]
          rw [this] at hj
          exact hs _ _ hg he j hj
      · exact mask_ok hs es (fun e' he' => h e' (by simp [he'])) j hj

/-- An item of the plan is an operation of the region; its mask holds what must lie ahead. -/
theorem items_ok {D : Nat → Bool} : ∀ (l : List Oper) (i : Nat) (acc : List Nat), acc.length = i → Shut D acc → (∀ j o, l[j]? = some o → D (i + j) = true → Ahead D o) → ∀ p ∈ itemsGo i acc l, (∃ j, p.i = i + j ∧ l[j]? = some p.o) ∧ (Ahead D p.o → ∀ j, Nat.testBit p.m j = true → D j = true)
  | [], _, _, _, _, _, p, hp => by cases hp
  | o :: l, i, acc, hl, hs, hD, p, hp => by
    rw [itemsGo] at hp
    rcases List.mem_cons.1 hp with rfl | hp
    · exact ⟨⟨0, rfl, rfl⟩, fun ha => mask_ok hs _ fun e he => ha e (by simpa using he)⟩
    · obtain ⟨⟨j, h1, h2⟩, h3⟩ := items_ok l (i + 1) (acc ++ [maskE acc o.after.toList]) (by simp [hl]) (fun k m hk hDk => by
        by_cases hlt : k < acc.length
        · rw [List.getElem?_append_left hlt] at hk
          exact hs k m hk hDk
        · rw [List.getElem?_append_right (by omega)] at hk
          have hk0 : k = i := by
            have := (List.getElem?_eq_some_iff.1 hk).1
            simp at this
            omega
          subst hk0
          have : m = maskE acc o.after.toList := by
            rw [hl] at hk
            simpa using hk.symm
          rw [this]
          exact mask_ok hs _ fun e he => hD 0 o rfl (by simpa using hDk) e (by simpa using he))
        (fun j o' h1 h2 => hD (j + 1) o' (by simpa using h1) (by rw [← h2]; congr 1; omega)) p hp
      exact ⟨⟨j + 1, by omega, by simpa using h2⟩, h3⟩
theorem items_all (l : List Oper) : ∀ (i : Nat) (acc : List Nat) (j : Nat) (o : Oper), l[j]? = some o → ∃ p, p ∈ itemsGo i acc l ∧ p.i = i + j ∧ p.o = o := by
  induction l with
  | nil => intro i acc j o h; simp at h
  | cons o' l ih =>
    intro i acc j o h
    cases j with
    | zero =>
      have h : o' = o := by simpa using h
      subst h
      exact ⟨_, List.mem_cons_self, rfl, rfl⟩
    | succ j =>
      obtain ⟨p, h1, h2, h3⟩ := ih (i + 1) (acc ++ [maskE acc o'.after.toList]) j o (by simpa using h)
      exact ⟨p, List.mem_cons_of_mem _ h1, by omega, h3⟩
theorem items_le : ∀ (l : List Oper) (i : Nat) (acc : List Nat) (p : PS), p ∈ itemsGo i acc l → i ≤ p.i
  | [], _, _, p, hp => by cases hp
  | o :: l, i, acc, p, hp => by
    rcases List.mem_cons.1 hp with rfl | hp
    · exact Nat.le_refl _
    · have := items_le l _ _ p hp
      omega
theorem items_inj : ∀ (l : List Oper) (i : Nat) (acc : List Nat) (p q : PS), p ∈ itemsGo i acc l → q ∈ itemsGo i acc l → p.i = q.i → p = q
  | [], _, _, p, q, hp, _, _ => by cases hp
  | o :: l, i, acc, p, q, hp, hq, he => by
    have lo : ∀ p' ∈ itemsGo (i + 1) (acc ++ [maskE acc o.after.toList]) l, i < p'.i := fun p' hp' => items_le l _ _ p' hp'
    rw [itemsGo] at hp hq
    rcases List.mem_cons.1 hp with rfl | hp <;> rcases List.mem_cons.1 hq with rfl | hq
    · rfl
    · have := lo q hq; simp at he; omega
    · have := lo p hp; simp at he; omega
    · exact items_inj l _ _ p q hp hq he

theorem pick_mem : ∀ {c : Nat} {l : List PS} {p : PS}, pickP c l = some p → p ∈ l
  | _, [], _, h => by cases h
  | c, q :: l, p, h => by
    unfold pickP at h
    split at h
    · cases h; simp
    · exact List.mem_cons_of_mem _ (pick_mem h)
theorem plan_mem : ∀ (n c : Nat) (l : List PS) (p : PS), p ∈ planGo n c l → p ∈ l
  | 0, _, _, _, h => by cases h
  | n + 1, c, l, p, h => by
    unfold planGo at h
    split at h
    · rename_i q hq
      rcases List.mem_cons.1 h with rfl | h
      · exact pick_mem hq
      · exact (List.mem_filter.1 (plan_mem _ _ _ _ h)).1
    · split at h
      · cases h
      · rcases List.mem_cons.1 h with rfl | h
        · simp
        · exact List.mem_cons_of_mem _ (plan_mem _ _ _ _ h)
theorem okE_ok : ∀ (i : Nat) (l : List Oper), okE i l = true → ∀ j o, l[j]? = some o → ∀ e ∈ o.after, Region.binds .any e = true → e.on < i + j
  | _, [], _, j, o, h => by simp at h
  | i, o' :: l, hk, 0, o, h => fun e he hb => by
    unfold okE at hk
    rw [Bool.and_eq_true, List.all_eq_true] at hk
    have e0 : o' = o := by simpa using h
    subst e0
    have := hk.1 e (by simpa using he)
    rw [hb] at this
    simpa using this
  | i, o' :: l, hk, j + 1, o, h => fun e he hb => by
    unfold okE at hk
    rw [Bool.and_eq_true] at hk
    have := okE_ok (i + 1) l hk.2 j o (by simpa using h) e he hb
    omega
end Go.Proofs.YtlclpcobblojnaaGreatDoor
/- The machine for closed runs: a region that draws its order. -/
namespace Go.Proofs.YtlclpcobblojnaaGreatDoor

def SeenOk (r : Ren) (ts : Fr) (a : Act) (l : List Nat) : Prop := ∀ d ∈ l, VR r ((evB (.tmp d)).f ts) (a.eval (.tmp d))
theorem seen_ev {r : Ren} {ts : Fr} {a : Act} {ops : Array Oper} {o : Oper} (h : SeenOk r ts a (seenBy ops o)) : EvOk r ts a o.op.operands.toList := by
  intro x hx
  cases x with
  | tmp d =>
    refine h d ?_
    unfold seenBy
    refine List.mem_append_right _ ?_
    unfold tmpsOf
    exact List.mem_filterMap.2 ⟨_, hx, rfl⟩
  | const v => exact VR_ofV r v
  | func f => exact .fn f #[] #[] .nil
  | global g => exact .junk _
theorem SeenOk.mono {r s : Ren} (hle : r.le s) {ts : Fr} {a : Act} {l : List Nat} (h : SeenOk r ts a l) : SeenOk s ts a l := fun d hd => (h d hd).mono hle

section
variable {P : Program} {ops : Array Oper} {o : Oper} {i : Nat}

/-- What an operation that has been reckoned ahead will do: where memory is looked at; where nothing is; where an object is made. -/
def Lag0 (P : Program) (ops : Array Oper) (i : Nat) (o : Oper) (ts : Fr) (g : AH) (v : AV) : Prop :=
  ∀ (ro : Option Nat) (Q : Exit → Act → World → Prop) (K : Act → World → Prop) (r : Ren) (a : Act) (w : World) (N : Nat), Rel P r ⟨g.t, N⟩ w → SeenOk r ts a (seenBy ops o) → (∀ v', VR r v v' → K (a.put o.dst v') w) → wpOpIn (fw ro) 0 P ops Q i K a w
def LagS (P : Program) (ops : Array Oper) (i : Nat) (o : Oper) (ts : Fr) (v : AV) : Prop :=
  ∀ (ro : Option Nat) (Q : Exit → Act → World → Prop) (K : Act → World → Prop) (r : Ren) (a : Act) (w : World), SeenOk r ts a (seenBy ops o) → (∀ v', VR r v v' → K (a.put o.dst v') w) → wpOpIn (fw ro) 0 P ops Q i K a w
def Lag1 (P : Program) (ops : Array Oper) (i : Nat) (o : Oper) (ts : Fr) (id : Nat) (ob : OB) (v : AV) : Prop :=
  ∀ (ro : Option Nat) (Q : Exit → Act → World → Prop) (K : Act → World → Prop) (r : Ren) (a : Act) (w : World) (g : AH), Rel P r g w → r id = none → id < g.next → (∀ o', g.get id = some o' → o' = ob) → SeenOk r ts a (seenBy ops o) →
    (∀ v' s w', VR s v v' → LPost P r g w id s w' → K (a.put o.dst v') w') → wpOpIn (fw ro) 0 P ops Q i K a w

theorem wp_value {ro : Option Nat} {Q : Exit → Act → World → Prop} {K : Act → World → Prop} {a : Act} {w w' : World} {v' : Value} (ho : ops[i]? = some o) (hw : Region.wanted o (yielded ops a.tmps) = true) (hnd : ∀ c, o.op ≠ .defer c) (he : (execOp a.eval o).run P w = .ok (.value v') w') (hK : K (a.put o.dst v') w') : wpOpIn (fw ro) 0 P ops Q i K a w := by
  unfold wpOpIn
  simp only [ho, hw, if_true]
  refine ⟨fun _ _ => trivial, ?_⟩
  rw [Oper.semAt_eq _ _ _ hnd, he]
  exact hK
theorem wp_skipped {ro : Option Nat} {Q : Exit → Act → World → Prop} {K : Act → World → Prop} {a : Act} {w : World} (ho : ops[i]? = some o) (hw : Region.wanted o (yielded ops a.tmps) = false) (hK : K (a.put o.dst undef) w) : wpOpIn (fw ro) 0 P ops Q i K a w := by
  unfold wpOpIn
  simp only [ho, hw]
  exact ⟨fun _ _ => trivial, hK⟩
theorem cls_defer (h : clsO o.op < 2) : ∀ c, o.op ≠ .defer c := fun c e => by
  rw [e] at h
  exact absurd h (by simp [clsO])

theorem wanted_none (hg : o.guard = none) (y : Nat → Option Bool) : Region.wanted o y = true := by simp [Region.wanted, hg]
theorem wanted_some {j : Nat} {want : Bool} (hg : o.guard = some (j, want)) (y : Nat → Option Bool) : Region.wanted o y = (y j == some want) := by simp [Region.wanted, hg]
theorem yielded_no {a : Act} {j : Nat} (hd : (ops[j]?).bind (·.dst) = none) : yielded ops a.tmps j = none := by simp [yielded, hd]
theorem yielded_at {a : Act} {j d : Nat} (hd : (ops[j]?).bind (·.dst) = some d) : yielded ops a.tmps j = match a.eval (.tmp d) with | .bool b => some b | _ => none := by
  simp [yielded, hd, Act.eval]
  cases a.tmps[d]? with
  | none => rfl
  | some u => cases u <;> rfl

/-- How a guard goes. -/
theorem guard_ok {f : OpT} {t : Fr} {h : AH} {v : AV} {h1 : AH} (hgf : (guardO P ops o).f t h (fun v h => some (v, h)) = some (v, h1)) :
    ((opB P o).f t h (fun v h => some (v, h)) = some (v, h1) ∧ ∀ r a, SeenOk r t a (seenBy ops o) → Region.wanted o (yielded ops a.tmps) = true) ∨ (v = .undef ∧ h1 = h ∧ ∀ r a, SeenOk r t a (seenBy ops o) → Region.wanted o (yielded ops a.tmps) = false) := by
  unfold guardO at hgf
  split at hgf
  · rename_i hg
    exact .inl ⟨hgf, fun r a _ => wanted_none hg _⟩
  · rename_i j want hg
    split at hgf
    · rename_i d hd
      have hmem : d ∈ seenBy ops o := by
        unfold seenBy
        rw [hg]
        simp only [hd]
        simp
      simp only at hgf
      cases h1t : Nat.beq ((evB (.tmp d)).f t).tag 1 with
      | true =>
        rw [h1t, ifB_t] at hgf
        cases h4 : Nat.beq ((evB (.tmp d)).f t).a want.toNat with
        | true =>
          rw [h4, ifB_t] at hgf
          refine .inl ⟨hgf, fun r a hs => ?_⟩
          obtain ⟨b, h2, h3⟩ := (hs d hmem).inv1 (beq_of h1t)
          rw [wanted_some hg, yielded_at hd, h2]
          have := h3.symm.trans (beq_of h4)
          cases b <;> cases want <;> first | rfl | cases this
        | false =>
          rw [h4, ifB_f] at hgf
          cases hgf
          refine .inr ⟨rfl, rfl, fun r a hs => ?_⟩
          obtain ⟨b, h2, h3⟩ := (hs d hmem).inv1 (beq_of h1t)
          rw [wanted_some hg, yielded_at hd, h2]
          have : b ≠ want := by
            rintro rfl
            rw [h3, Nat.beq_refl] at h4
            cases h4
          cases b <;> cases want <;> first | rfl | exact absurd rfl this
      | false =>
        rw [h1t, ifB_f] at hgf
        obtain ⟨h5, hgf⟩ := ifB_some hgf
        cases hgf
        refine .inr ⟨rfl, rfl, fun r a hs => ?_⟩
        obtain ⟨cs, h6, -⟩ := (hs d hmem).inv8 (beq_of h5)
        rw [wanted_some hg, yielded_at hd, h6]
        rfl
    · rename_i hd
      cases hgf
      refine .inr ⟨rfl, rfl, fun r a hs => ?_⟩
      rw [wanted_some hg, yielded_no hd]
      rfl

theorem lag_plain {t : Fr} {h : AH} {v : AV} {h1 : AH} (ho : ops[i]? = some o) (hc : clsO o.op = 0) (hgf : (guardO P ops o).f t h (fun v h => some (v, h)) = some (v, h1)) : Lag0 P ops i o t h v := by
  intro ro Q K r a w N hr hs hK
  rcases guard_ok (f := (opB P o).f) hgf with ⟨h2, h3⟩ | ⟨rfl, -, h3⟩
  · have hp : PlOk P o (opB P o).f := by have := opB_cls P o; rw [hc] at this; exact this
    obtain ⟨v0, h0, h4, -, v', h6, h7⟩ := hp t h _ _ r a w N h2 hr (seen_ev hs)
    cases h4
    exact wp_value ho (h3 r a hs) (cls_defer (by omega)) h6 (hK v' h7)
  · exact wp_skipped ho (h3 r a hs) (hK _ VR.undef)
theorem lag_late {t : Fr} {h : AH} {v : AV} {h1 : AH} (ho : ops[i]? = some o) (hc : clsO o.op = 1) (hgf : (guardO P ops o).f t h (fun v h => some (v, h)) = some (v, h1)) : (h1 = h ∧ LagS P ops i o t v) ∨ ∃ ob, h1 = h.new ob ∧ Lag1 P ops i o t h.next ob v := by
  rcases guard_ok (f := (opB P o).f) hgf with ⟨h2, h3⟩ | ⟨rfl, h2, h3⟩
  · have hp : LateOk P o (opB P o).f := by have := opB_cls P o; rw [hc] at this; exact this
    obtain ⟨v0, ob, h4⟩ := hp.makes t h _ _ h2
    cases h4
    refine .inr ⟨ob, rfl, fun ro Q K r a w g hr hn hi hob hs hK => ?_⟩
    obtain ⟨v2, ob2, h5, h6⟩ := hp.does t h _ _ r a h2 (seen_ev hs)
    simp only [Option.some.injEq, Prod.mk.injEq] at h5
    obtain ⟨rfl, h5⟩ := h5
    obtain ⟨s, w', v', h7, h8, h9⟩ := h6 w g hr hn hi fun o' hg => by
      have e := hob o' hg
      have hsm := hr.small _ _ hg
      have e2 : (h.new ob2).get h.next = (h.new ob).get h.next := by rw [h5]
      rw [AH.get_new, AH.get_new, if_pos ⟨rfl, hsm⟩, if_pos ⟨rfl, hsm⟩] at e2
      rw [e]
      exact (Option.some.inj e2).symm
    exact wp_value ho (h3 r a hs) (cls_defer (by omega)) h7 (hK v' s w' h8 h9)
  · exact .inl ⟨h2, fun ro Q K r a w hs hK => wp_skipped ho (h3 r a hs) (hK _ VR.undef)⟩
end
end Go.Proofs.YtlclpcobblojnaaGreatDoor
/- The machine for closed runs: a region that draws its order, whatever order is drawn. -/
namespace Go.Proofs.YtlclpcobblojnaaGreatDoor

theorem putF_ne {n : Nat} {d : Option Tmp} {t : Fr} {v : AV} {i : Nat} (hn : n ≤ 512) (hi : i < 512) (h : d ≠ some i) : ((putF n d).f t v).get i = t.get i := by
  cases d with
  | none => rfl
  | some d =>
    unfold putF
    simp only
    cases hd : Nat.blt d n with
    | true =>
      have hd : @LT.lt Nat _ d n := Nat.le_of_ble_eq_true hd
      rw [setF_get hi (by omega), if_neg (fun e => h (by rw [e]))]
    | false => rfl
theorem putF_eq {n d : Nat} {t : Fr} {v : AV} (hn : n ≤ 512) (h : d < n) : ((putF n (some d)).f t v).get d = v := by
  unfold putF
  have : Nat.blt d n = true := Nat.ble_eq_true_of_le h
  simp only [this]
  rw [setF_get (by omega) (by omega), if_pos rfl]
theorem put_ne {a : Act} {d : Option Tmp} {v : Value} {i : Nat} (h : d ≠ some i) : (a.put d v).tmps.getD i undef = a.tmps.getD i undef := by
  cases d with
  | none => rfl
  | some d => simp [Act.put, Array.getD_eq_getD_getElem?, Array.getElem?_setIfInBounds_ne (fun e : d = i => h (by rw [e]))]
theorem put_eq {a : Act} {d : Nat} {v : Value} (h : d < a.tmps.size) : (a.put (some d) v).tmps.getD d undef = v := by
  simp [Act.put, h]
theorem ev_get {d : Nat} (t : Fr) (h : d < 512) : (evB (.tmp d)).f t = t.get d := by
  unfold evB
  have : Nat.blt d 512 = true := Nat.ble_eq_true_of_le h
  simp only [this]
  exact getF_eq d t
theorem ev_big {d : Nat} (t : Fr) (h : ¬ d < 512) : (evB (.tmp d)).f t = .junk := by
  unfold evB
  have : Nat.blt d 512 = false := by
    cases hb : Nat.blt d 512 with
    | false => rfl
    | true => exact absurd (Nat.le_of_ble_eq_true hb) h
  simp only [this]

theorem names_seen {ops : Array Oper} {d : Nat} {q : PS} (h : d ∈ seenBy ops q.o) : namesT ops (some d) q = true := by
  unfold namesT
  simp only [Bool.or_eq_true]
  exact .inr (by simpa using h)
theorem names_dst {ops : Array Oper} {d : Nat} {q : PS} (h : q.o.dst = some d) : namesT ops (some d) q = true := by
  unfold namesT
  simp [h]

/-- What the plan's test says. -/
theorem okP_cons {ops : Array Oper} {n : Nat} {all : List PS} {c : Nat} {p : PS} {l : List PS} (h : okP ops n all c (p :: l) = true) :
    subM p.m c = true ∧ Nat.testBit c p.i = false ∧ (∀ d, p.o.dst = some d → d < n) ∧
    (clsO p.o.op < 2 → (∀ d, p.o.dst = some d → d ∉ seenBy ops p.o) ∧ ∀ q ∈ all, q.i = p.i ∨ namesT ops p.o.dst q = false ∨ Nat.testBit q.m p.i = true) ∧
    (¬ clsO p.o.op < 2 → (∀ q ∈ l, Nat.testBit q.m p.i = true) ∧ ∀ q ∈ all, q.i = p.i ∨ namesT ops p.o.dst q = false ∨ Nat.testBit q.m p.i = true ∨ Nat.testBit p.m q.i = true) ∧
    okP ops n all (c ||| 2 ^ p.i) l = true := by
  unfold okP at h
  simp only [Bool.and_eq_true] at h
  obtain ⟨h1, h2, h3, h4, h5⟩ := h
  refine ⟨h1, by simpa using h2, fun d hd => ?_, fun hc => ?_, fun hc => ?_, h5⟩
  · rw [hd] at h3
    exact Nat.le_of_ble_eq_true h3
  · have hb : Nat.blt (clsO p.o.op) 2 = true := Nat.ble_eq_true_of_le hc
    rw [hb] at h4
    simp only [Bool.and_eq_true, List.all_eq_true] at h4
    refine ⟨fun d hd hm => ?_, fun q hq => ?_⟩
    · have h6 := h4.1
      rw [hd] at h6
      simp at h6
      exact h6 hm
    · have := h4.2 q hq
      simp only [Bool.or_eq_true, Bool.not_eq_true'] at this
      exact this.imp beq_of id
  · have hb : Nat.blt (clsO p.o.op) 2 = false := by
      cases hb : Nat.blt (clsO p.o.op) 2 with
      | false => rfl
      | true => exact absurd (Nat.le_of_ble_eq_true hb) hc
    rw [hb] at h4
    simp only [Bool.and_eq_true, List.all_eq_true] at h4
    refine ⟨h4.1, fun q hq => ?_⟩
    have := h4.2 q hq
    simp only [Bool.or_eq_true, Bool.not_eq_true'] at this
    exact this.imp beq_of id
theorem okP_nil {ops : Array Oper} {n : Nat} {all : List PS} {c : Nat} (h : okP ops n all c [] = true) {i : Nat} (hi : i < ops.size) : Nat.testBit c i = true := by
  have : c = 2 ^ ops.size - 1 := beq_of h
  rw [this, Nat.testBit_two_pow_sub_one]
  exact decide_eq_true hi
theorem okP_all {ops : Array Oper} {n : Nat} {all : List PS} : ∀ {l : List PS} {c : Nat}, okP ops n all c l = true → ∀ i, i < ops.size → Nat.testBit c i = true ∨ ∃ p ∈ l, p.i = i
  | [], c, h, i, hi => .inl (okP_nil h hi)
  | p :: l, c, h, i, hi => by
    rcases okP_all (okP_cons h).2.2.2.2.2 i hi with h1 | ⟨q, h1, h2⟩
    · rw [Nat.testBit_or, Bool.or_eq_true, Nat.testBit_two_pow] at h1
      rcases h1 with h1 | h1
      · exact .inl h1
      · exact .inr ⟨p, by simp, by simpa using h1⟩
    · exact .inr ⟨q, by simp [h1], h2⟩

/-- What is known of the part of the plan that has been reckoned. -/
structure Pre (ops : Array Oper) (n : Nat) (all pre : List PS) (c : Nat) : Prop where
  mem : ∀ p ∈ pre, p ∈ all
  bits : ∀ j, Nat.testBit c j = true ↔ ∃ p ∈ pre, p.i = j
  sub : ∀ p ∈ pre, ∀ j, Nat.testBit p.m j = true → Nat.testBit c j = true
  soft : ∀ p ∈ pre, clsO p.o.op < 2 → ∀ q ∈ all, q.i = p.i ∨ namesT ops p.o.dst q = false ∨ Nat.testBit q.m p.i = true
  self : ∀ p ∈ pre, clsO p.o.op < 2 → ∀ d, p.o.dst = some d → d ∉ seenBy ops p.o
  dst : ∀ p ∈ pre, ∀ d, p.o.dst = some d → d < n
theorem Pre.nil {ops : Array Oper} {n : Nat} {all : List PS} : Pre ops n all [] 0 :=
  ⟨fun _ h => (by cases h), fun j => by simp, fun _ h => (by cases h), fun _ h => (by cases h), fun _ h => (by cases h), fun _ h => (by cases h)⟩
theorem Pre.add {ops : Array Oper} {n : Nat} {all pre : List PS} {c : Nat} (h : Pre ops n all pre c) {p : PS} {l : List PS} (hp : p ∈ all) (hk : okP ops n all c (p :: l) = true) : Pre ops n all (p :: pre) (c ||| 2 ^ p.i) := by
  obtain ⟨h1, h2, h3, h4, h5, h6⟩ := okP_cons hk
  have up : ∀ j, Nat.testBit c j = true → Nat.testBit (c ||| 2 ^ p.i) j = true := fun j hj => by rw [Nat.testBit_or, hj]; rfl
  refine ⟨fun q hq => ?_, fun j => ?_, fun q hq j hj => ?_, fun q hq hc => ?_, fun q hq hc => ?_, fun q hq => ?_⟩
  · rcases List.mem_cons.1 hq with rfl | hq
    · exact hp
    · exact h.mem q hq
  · rw [Nat.testBit_or, Bool.or_eq_true, Nat.testBit_two_pow, h.bits j]
    constructor
    · rintro (⟨q, hq, e⟩ | e)
      · exact ⟨q, List.mem_cons_of_mem _ hq, e⟩
      · exact ⟨p, List.mem_cons_self, by simpa using e⟩
    · rintro ⟨q, hq, e⟩
      rcases List.mem_cons.1 hq with rfl | hq
      · exact .inr (by simpa using e)
      · exact .inl ⟨q, hq, e⟩
  · rcases List.mem_cons.1 hq with rfl | hq
    · exact up j (subM_ok h1 hj)
    · exact up j (h.sub q hq j hj)
  · rcases List.mem_cons.1 hq with rfl | hq
    · exact (h4 hc).2
    · exact h.soft q hq hc
  · rcases List.mem_cons.1 hq with rfl | hq
    · exact (h4 hc).1
    · exact h.self q hq hc
  · rcases List.mem_cons.1 hq with rfl | hq
    · exact h3
    · exact h.dst q hq

/-- An operation that was reckoned and is still to be done. -/
def LagOk (P : Program) (ops : Array Oper) (L : Nat → Bool) (p : PS) (t : Fr) (h : AH) (r : Ren) (m : Nat) (id : Option Nat) : Prop :=
  L p.i = true ∨ ∃ ts v, (∀ d ∈ seenBy ops p.o, d < 512 → ts.get d = t.get d) ∧ (∀ d, p.o.dst = some d → t.get d = v) ∧
    ((clsO p.o.op = 0 ∧ Lag0 P ops p.i p.o ts h v) ∨ (clsO p.o.op = 1 ∧ LagS P ops p.i p.o ts v) ∨ ∃ j ob, clsO p.o.op = 1 ∧ id = some j ∧ Lag1 P ops p.i p.o ts j ob v ∧ r j = none ∧ m ≤ j ∧ j < h.next ∧ ∀ o', h.get j = some o' → o' = ob)

/-- On the way through the region. -/
structure Mid (P : Program) (n m : Nat) (ops : Array Oper) (L : Nat → Bool) (pre : List PS) (D : Nat → Bool) (ids : Nat → Option Nat) (r0 : Ren) (h0 : AH) (w0 : World) (r : Ren) (t : Fr) (h : AH) (a : Act) (w : World) : Prop where
  sz : a.tmps.size = n
  le : n ≤ 512
  marks : Marks m w a.defers
  hard : ∀ p ∈ pre, ¬ clsO p.o.op < 2 → D p.i = true
  sub : ∀ i, D i = true → ∃ p ∈ pre, p.i = i
  fr : ∀ i, i < 512 → (∀ p ∈ pre, D p.i = false → p.o.dst ≠ some i) → VR r (t.get i) (a.tmps.getD i undef)
  lag : ∀ p ∈ pre, D p.i = false → LagOk P ops L p t h r h0.next (ids p.i)
  inj : ∀ p ∈ pre, ∀ q ∈ pre, D p.i = false → D q.i = false → ∀ j, ids p.i = some j → ids q.i = some j → p.i = q.i
  low : ∀ p ∈ pre, D p.i = false → ∀ j, ids p.i = some j → j < h.next
  post : Post P r0 h0 w0 r h w

section
variable {P : Program} {n m : Nat} {call : CallT} {ops : Array Oper} {L : Nat → Bool} {all pre l done : List PS} {c : Nat} {D : Nat → Bool} {ids : Nat → Option Nat} {r0 r : Ren} {h0 h : AH} {w0 w : World} {t : Fr} {a : Act} {k : KC} {x : AV × AH}

theorem Lag0.more {o : Oper} {i : Nat} {ts : Fr} {g g' : AH} {v : AV} (h1 : Lag0 P ops i o ts g v) (hs : ∀ r w N, Rel P r ⟨g'.t, N⟩ w → Rel P r ⟨g.t, N⟩ w) : Lag0 P ops i o ts g' v :=
  fun ro Q K r a w N hr => h1 ro Q K r a w N (hs r w N hr)

/-- One more is reckoned. -/
theorem Mid.soft (hm : Mid P n m ops L pre D ids r0 h0 w0 r t h a w) (hp : Pre ops n all pre c) {p : PS} (hpa : p ∈ all) (hk : okP ops n all c (p :: l) = true) (hinj : ∀ p ∈ all, ∀ q ∈ all, p.i = q.i → p = q) (hc : clsO p.o.op < 2) {v : AV} {h1 : AH} {id : Option Nat}
    (hh : h1 = h ∨ ∃ ob, h1 = h.new ob) (hid : id = none ∨ id = some h.next ∧ h.next < h1.next)
    (hl : L p.i = true ∨ (clsO p.o.op = 0 ∧ Lag0 P ops p.i p.o t h1 v) ∨ (clsO p.o.op = 1 ∧ LagS P ops p.i p.o t v) ∨ ∃ j ob, clsO p.o.op = 1 ∧ id = some j ∧ Lag1 P ops p.i p.o t j ob v ∧ r j = none ∧ h0.next ≤ j ∧ j < h1.next ∧ ∀ o', h1.get j = some o' → o' = ob) :
    Mid P n m ops L (p :: pre) D (fun i => if i = p.i then id else ids i) r0 h0 w0 r ((putF n p.o.dst).f t v) h1 a w := by
  obtain ⟨k1, k2, k3, k4, k5, k6⟩ := okP_cons hk
  have hnp : ∀ q ∈ pre, q.i ≠ p.i := fun q hq e => by
    have := (hp.bits p.i).2 ⟨q, hq, e⟩
    rw [this] at k2
    cases k2
  have hDp : D p.i = false := by
    cases hd : D p.i with
    | false => rfl
    | true =>
      obtain ⟨q, h1, h2⟩ := hm.sub _ hd
      exact absurd h2 (hnp q h1)
  have hnext : h.next ≤ h1.next := by
    rcases hh with rfl | ⟨ob, rfl⟩
    · exact Nat.le_refl _
    · simp
  -- an operation reckoned before names nothing that is written now
  have hnm : ∀ q ∈ pre, namesT ops p.o.dst q = false := fun q hq => by
    rcases (k4 hc).2 q (hp.mem q hq) with e | e | e
    · exact absurd e (hnp q hq)
    · exact e
    · have := hp.sub q hq _ e
      rw [this] at k2
      cases k2
  have keep : ∀ q ∈ pre, ∀ d, d < 512 → namesT ops (some d) q = true → ((putF n p.o.dst).f t v).get d = t.get d := fun q hq d hd hn => by
    refine putF_ne hm.le hd fun e => ?_
    have := hnm q hq
    rw [e, hn] at this
    cases this
  have hrel := hm.post.rel
  have hgrow : ∀ r w N, Rel P r ⟨h1.t, N⟩ w → Rel P r ⟨h.t, N⟩ w := fun r w N hr => by
    rcases hh with rfl | ⟨ob, rfl⟩
    · exact hr
    · refine hr.sub (fun i o hi => ?_) (Nat.le_refl _)
      have hi' : h.get i = some o := hi
      have := hrel.top _ _ hi'
      show (h.new ob).get i = some o
      rw [AH.get_new, if_neg (fun e => by omega)]
      exact hi'
  refine ⟨hm.sz, hm.le, hm.marks, fun q hq hnc => ?_, fun i hi => ?_, fun i hi hno => ?_, fun q hq hD => ?_, fun q hq q' hq' hD hD' j hj hj' => ?_, fun q hq hD j hj => ?_, ?_⟩
  · rcases List.mem_cons.1 hq with rfl | hq
    · exact absurd hc hnc
    · exact hm.hard q hq hnc
  · obtain ⟨q, h1, h2⟩ := hm.sub i hi
    exact ⟨q, List.mem_cons_of_mem _ h1, h2⟩
  · rw [putF_ne hm.le hi (hno p List.mem_cons_self hDp)]
    exact hm.fr i hi fun q hq hD => hno q (List.mem_cons_of_mem _ hq) hD
  · rcases List.mem_cons.1 hq with rfl | hq
    · rcases hl with hl | hl
      · exact .inl hl
      refine .inr ⟨t, v, fun d hd hd5 => ?_, fun d hd => ?_, ?_⟩
      · rw [putF_ne hm.le hd5]
        exact fun e => (k4 hc).1 d e hd
      · rw [hd]
        exact putF_eq hm.le (k3 d hd)
      · rw [if_pos rfl]
        exact hl
    · rcases hm.lag q hq hD with hL | ⟨ts, u, h2, h3, h4⟩
      · exact .inl hL
      refine .inr ⟨ts, u, fun d hd hd5 => ?_, fun d hd => ?_, ?_⟩
      · rw [keep q hq d hd5 (names_seen hd)]
        exact h2 d hd hd5
      · have := hp.dst q hq d hd
        rw [keep q hq d (Nat.lt_of_lt_of_le this hm.le) (names_dst hd)]
        exact h3 d hd
      · rw [if_neg (hnp q hq)]
        rcases h4 with ⟨h4, h5⟩ | h4 | ⟨j, ob, h4, h5, h6, h7, h8, h9, h10⟩
        · exact .inl ⟨h4, h5.more hgrow⟩
        · exact .inr (.inl h4)
        · refine .inr (.inr ⟨j, ob, h4, h5, h6, h7, h8, by omega, fun o' ho => ?_⟩)
          rcases hh with rfl | ⟨ob', rfl⟩
          · exact h10 o' ho
          · rw [AH.get_new, if_neg (fun e => by omega)] at ho
            exact h10 o' ho
  · rcases List.mem_cons.1 hq with e1 | hq1 <;> rcases List.mem_cons.1 hq' with e2 | hq2
    · rw [e1, e2]
    · rw [if_pos (by rw [e1])] at hj
      rw [if_neg (hnp q' hq2)] at hj'
      have := hm.low q' hq2 hD' j hj'
      rcases hid with e | ⟨e, -⟩
      · rw [e] at hj; cases hj
      · rw [e] at hj; cases hj; omega
    · rw [if_neg (hnp q hq1)] at hj
      rw [if_pos (by rw [e2])] at hj'
      have := hm.low q hq1 hD j hj
      rcases hid with e | ⟨e, -⟩
      · rw [e] at hj'; cases hj'
      · rw [e] at hj'; cases hj'; omega
    · rw [if_neg (hnp q hq1)] at hj
      rw [if_neg (hnp q' hq2)] at hj'
      exact hm.inj q hq1 q' hq2 hD hD' j hj hj'
  · rcases List.mem_cons.1 hq with rfl | hq
    · rw [if_pos rfl] at hj
      rcases hid with e | ⟨e, e2⟩
      · rw [e] at hj; cases hj
      · rw [e] at hj; cases hj; exact e2
    · rw [if_neg (hnp q hq)] at hj
      have := hm.low q hq hD j hj
      omega
  · rcases hh with rfl | ⟨ob, rfl⟩
    · exact hm.post
    · refine hm.post.trans ⟨hrel.new ob, r.le_refl, fun _ _ h => .inl h, by simp, Nat.le_refl _, fun _ _ _ => rfl, fun i o' q hi hq => ?_, fun i hi _ => by rw [AH.get_new, if_neg (fun e => by omega)], rfl, rfl, rfl⟩
      rw [AH.get_new] at hi
      split at hi
      · rename_i e
        rw [e.1, hrel.fresh] at hq; cases hq
      · exact .inr ⟨i, o', q, hi, hq, rfl⟩
end
end Go.Proofs.YtlclpcobblojnaaGreatDoor
/- The machine for closed runs: a region that draws its order: the walk. -/
namespace Go.Proofs.YtlclpcobblojnaaGreatDoor

/-- The items of a region. -/
structure AllOk (ops : Array Oper) (L : Nat → Bool) (all : List PS) : Prop where
  op : ∀ p ∈ all, L p.i = false → ops[p.i]? = some p.o
  late : ∀ p ∈ all, L p.i = true → clsO p.o.op = 0
  uniq : ∀ p ∈ all, ∀ q ∈ all, p.i = q.i → p = q
  ahead : ∀ D : Nat → Bool, (∀ i o, ops[i]? = some o → D i = true → Ahead D o) → ∀ p ∈ all, Ahead D p.o → ∀ j, Nat.testBit p.m j = true → D j = true
  full : ∀ i o, ops[i]? = some o → ∃ p ∈ all, p.i = i
theorem allOk (ops : Array Oper) : AllOk ops (fun _ => false) (itemsGo 0 [] ops.toList) := by
  refine ⟨fun p hp _ => ?_, (fun p hp e => by cases e), fun p hp q hq => items_inj _ _ _ p q hp hq, fun D hD p hp => ?_, fun i o ho => ?_⟩
  · obtain ⟨⟨j, h1, h2⟩, -⟩ := items_ok (D := fun _ => false) ops.toList 0 [] rfl (fun i m h => by simp at h) (fun _ _ _ h => by cases h) p hp
    rw [h1, Nat.zero_add]
    simpa using h2
  · exact (items_ok (D := D) ops.toList 0 [] rfl (fun i m h => by simp at h) (fun j o h1 h2 => hD j o (by simpa using h1) (by simpa using h2)) p hp).2
  · obtain ⟨p, h1, h2, -⟩ := items_all ops.toList 0 [] i o (by simpa using ho)
    exact ⟨p, h1, by omega⟩

theorem Marks.far {m : Nat} {w w' : World} (hw : ∀ b, b < w.heap.size → w'.heap[b]? = w.heap[b]?) : ∀ {ds : List Deferred}, Marks m w ds → Marks m w' ds
  | _, .nil => .nil
  | _, .cons h0 h1 h2 t => .cons h0 ((hw _ (Array.getElem?_eq_some_iff.1 h1).1).trans h1) h2 (Marks.far hw t)
theorem LPost.after {P : Program} {r0 r s : Ren} {h0 h : AH} {w0 w w' : World} {j : Nat} (hp : Post P r0 h0 w0 r h w) (hl : LPost P r h w j s w') (h1 : h0.next ≤ j) (h2 : j < h.next) : Post P r0 h0 w0 s h w' := by
  refine ⟨hl.rel, Ren.le_trans hp.ext hl.ext, fun i q hq => ?_, hp.nxt, Nat.le_trans hp.size hl.size, fun b hb hno => ?_, fun i o q hi hq => ?_, hp.keep, hl.os.trans hp.os, hl.tape.trans hp.tape, hl.output.trans hp.output⟩
  · rcases hl.new i q hq with h3 | ⟨rfl, -⟩
    · exact hp.new i q h3
    · exact .inr ⟨h1, h2⟩
  · rw [hl.frame b (Nat.lt_of_lt_of_le hb hp.size)]
    exact hp.frame b hb hno
  · rcases hl.new i q hq with h3 | ⟨-, h3⟩
    · exact hp.own i o q hi h3
    · exact .inl (Nat.le_trans hp.size h3)

section
variable {P : Program} {n m : Nat} {call : CallT} {ops : Array Oper} {L : Nat → Bool} {all pre l done : List PS} {c : Nat} {D : Nat → Bool} {ids : Nat → Option Nat} {r0 r : Ren} {h0 h : AH} {w0 w : World} {t : Fr} {a : Act} {k : KC} {x : AV × AH} {ro : Option Nat} {Q : Exit → Act → World → Prop} {K : Act → World → Prop}

theorem eval_tmp (a : Act) (d : Nat) : a.eval (.tmp d) = a.tmps.getD d undef := rfl

/-- What an operation looks at is as the machine has it, when all that must lie ahead is done. -/
theorem Mid.seen (hm : Mid P n m ops L pre D ids r0 h0 w0 r t h a w) (hp : Pre ops n all pre c) {p : PS} (hpa : p ∈ all) (hah : ∀ j, Nat.testBit p.m j = true → D j = true) {ts : Fr} (hts : ∀ d ∈ seenBy ops p.o, d < 512 → ts.get d = t.get d)
    (hne : ∀ q ∈ pre, D q.i = false → p.i = q.i → ∀ d, q.o.dst = some d → d ∉ seenBy ops p.o) : SeenOk r ts a (seenBy ops p.o) := by
  intro d hd
  by_cases hd5 : d < 512
  · rw [ev_get ts hd5, hts d hd hd5, eval_tmp]
    refine hm.fr d hd5 fun q hq hD e => ?_
    have hsoft : clsO q.o.op < 2 := Classical.not_not.1 fun hc => by
      rw [hm.hard q hq hc] at hD; cases hD
    rcases hp.soft q hq hsoft p hpa with e1 | e1 | e1
    · exact hne q hq hD e1 d e hd
    · rw [e, names_seen hd] at e1; cases e1
    · rw [hah _ e1] at hD; cases hD
  · rw [ev_big ts hd5]
    exact .junk _

def withI (D : Nat → Bool) (i : Nat) : Nat → Bool := fun j => D j || Nat.beq j i
theorem withI_self (D : Nat → Bool) (i : Nat) : withI D i i = true := by simp [withI]
theorem withI_old {D : Nat → Bool} {i j : Nat} (h : D j = true) : withI D i j = true := by simp [withI, h]
theorem withI_false {D : Nat → Bool} {i j : Nat} (h : withI D i j = false) : D j = false ∧ j ≠ i := by
  simp only [withI, Bool.or_eq_false_iff] at h
  exact ⟨h.1, fun e => by rw [e, Nat.beq_refl] at h; cases h.2⟩
theorem withI_true {D : Nat → Bool} {i j : Nat} (h : withI D i j = true) : D j = true ∨ j = i := by
  simp only [withI, Bool.or_eq_true] at h
  exact h.imp id beq_of

/-- What the step of one that was reckoned leaves. -/
structure Stp (r : Ren) (w : World) (id : Option Nat) (r' : Ren) (w' : World) : Prop where
  ext : r.le r'
  size : w.heap.size ≤ w'.heap.size
  frame : ∀ b, b < w.heap.size → w'.heap[b]? = w.heap[b]?
  new : ∀ j pl, r' j = some pl → r j = some pl ∨ (id = some j ∧ w.heap.size ≤ pl.blk)
theorem Stp.refl (r : Ren) (w : World) (id : Option Nat) : Stp r w id r w := ⟨r.le_refl, Nat.le_refl _, fun _ _ => rfl, fun _ _ h => .inl h⟩
/-- An operation that was reckoned is done. -/
theorem Mid.pick (hm : Mid P n m ops L pre D ids r0 h0 w0 r t h a w) (hp : Pre ops n all pre c) (ha : AllOk ops L all) {p : PS} (hpp : p ∈ pre) (hL : L p.i = false) (hD : D p.i = false) (hah : ∀ j, Nat.testBit p.m j = true → D j = true)
    (hK : ∀ r' a' w', Mid P n m ops L pre (withI D p.i) ids r0 h0 w0 r' t h a' w' → Stp r w (ids p.i) r' w' → K a' w') : wpOpIn (fw ro) 0 P ops Q p.i K a w := by
  have hpa := hp.mem p hpp
  have hsoft : clsO p.o.op < 2 := Classical.not_not.1 fun hc => by
    rw [hm.hard p hpp hc] at hD; cases hD
  obtain ⟨ts, v, h1, h2, h3⟩ := (hm.lag p hpp hD).resolve_left (by rw [hL]; exact Bool.false_ne_true)
  have hseen : SeenOk r ts a (seenBy ops p.o) := hm.seen hp hpa hah h1 fun q hq hDq e d hd => by
    rw [ha.uniq p hpa q (hp.mem q hq) e]
    have hs : clsO q.o.op < 2 := Classical.not_not.1 fun hc => by
      rw [hm.hard q hq hc] at hDq; cases hDq
    exact hp.self q hq hs d hd
  have fr' : ∀ {s : Ren} {v' : Value}, r.le s → VR s v v' → ∀ i, i < 512 → (∀ q ∈ pre, withI D p.i q.i = false → q.o.dst ≠ some i) → VR s (t.get i) ((a.put p.o.dst v').tmps.getD i undef) := by
    intro s v' hle hv i hi hno
    by_cases e : p.o.dst = some i
    · rw [h2 i e, e, put_eq (by rw [hm.sz]; exact hp.dst p hpp i e)]
      exact hv
    · rw [put_ne e]
      refine (hm.fr i hi fun q hq hDq e2 => ?_).mono hle
      by_cases e3 : q.i = p.i
      · rw [ha.uniq q (hp.mem q hq) p hpa e3] at e2
        exact e e2
      · refine hno q hq ?_ e2
        simp only [withI, hDq, Bool.false_or]
        cases hb : Nat.beq q.i p.i with
        | false => rfl
        | true => exact absurd (beq_of hb) e3
  rcases h3 with ⟨-, h3⟩ | ⟨-, h3⟩ | ⟨j, ob, -, h4, h5, h6, h7, h8, h9⟩
  · refine h3 ro Q K r a w h.next hm.post.rel hseen fun v' hv => hK r _ _ ⟨put_size.trans hm.sz, hm.le, by rw [put_defers]; exact hm.marks, fun q hq hc => withI_old (hm.hard q hq hc), fun i hi => ?_, fr' r.le_refl hv, fun q hq hDq => hm.lag q hq (withI_false hDq).1, fun q hq q' hq' hDq hDq' => hm.inj q hq q' hq' (withI_false hDq).1 (withI_false hDq').1, fun q hq hDq => hm.low q hq (withI_false hDq).1, hm.post⟩ (Stp.refl _ _ _)
    rcases withI_true hi with e | rfl
    · exact hm.sub i e
    · exact ⟨p, hpp, rfl⟩
  · refine h3 ro Q K r a w hseen fun v' hv => hK r _ _ ⟨put_size.trans hm.sz, hm.le, by rw [put_defers]; exact hm.marks, fun q hq hc => withI_old (hm.hard q hq hc), fun i hi => ?_, fr' r.le_refl hv, fun q hq hDq => hm.lag q hq (withI_false hDq).1, fun q hq q' hq' hDq hDq' => hm.inj q hq q' hq' (withI_false hDq).1 (withI_false hDq').1, fun q hq hDq => hm.low q hq (withI_false hDq).1, hm.post⟩ (Stp.refl _ _ _)
    rcases withI_true hi with e | rfl
    · exact hm.sub i e
    · exact ⟨p, hpp, rfl⟩
  · refine h5 ro Q K r a w h hm.post.rel h6 h8 h9 hseen fun v' s w' hv hl => hK s _ _ ⟨put_size.trans hm.sz, hm.le, by rw [put_defers]; exact hm.marks.far hl.frame, fun q hq hc => withI_old (hm.hard q hq hc), fun i hi => ?_, fr' hl.ext hv, fun q hq hDq => ?_, fun q hq q' hq' hDq hDq' => hm.inj q hq q' hq' (withI_false hDq).1 (withI_false hDq').1, fun q hq hDq => hm.low q hq (withI_false hDq).1, hl.after hm.post h7 h8⟩ ⟨hl.ext, hl.size, hl.frame, fun j' pl e => (hl.new j' pl e).imp id fun e2 => ⟨by rw [e2.1]; exact h4, e2.2⟩⟩
    · rcases withI_true hi with e | rfl
      · exact hm.sub i e
      · exact ⟨p, hpp, rfl⟩
    · obtain ⟨hDq, hne⟩ := withI_false hDq
      rcases hm.lag q hq hDq with hLq | ⟨ts', v2, k1, k2, k3⟩
      · exact .inl hLq
      refine .inr ⟨ts', v2, k1, k2, ?_⟩
      rcases k3 with k3 | k3 | ⟨j', ob', k3, k4, k5, k6, k7, k8, k9⟩
      · exact .inl k3
      · exact .inr (.inl k3)
      · refine .inr (.inr ⟨j', ob', k3, k4, k5, ?_, k7, k8, k9⟩)
        cases hs : s j' with
        | none => rfl
        | some pl =>
          rcases hl.new j' pl hs with e | ⟨e, -⟩
          · rw [k6] at e; cases e
          · subst e
            exact absurd (hm.inj q hq p hpp hDq hD _ k4 h4) hne

theorem again_ok {rest : Bx CodeT} : ∀ {L : List PS} {t : Fr} {h : AH}, (againB P ops rest L).f call t h k = some x → rest.f call t h k = some x ∧ ∀ q ∈ L, ∃ v h1, (guardO P ops q.o).f t h (fun v h => some (v, h)) = some (v, h1) ∧ ∀ d, q.o.dst = some d → v = (evB (.tmp d)).f t
  | [], t, h, hf => ⟨hf, fun _ hq => by cases hq⟩
  | q :: L, t, h, hf => by
    have hf : optK none ((guardO P ops q.o).f t h fun v h => some (v, h)) (fun p => ifB ((eqT q.o.dst).f t p.1) ((againB P ops rest L).f call t h k) none) = some x := hf
    obtain ⟨⟨v, h1⟩, h2, h3⟩ := optK_some hf
    obtain ⟨h4, h5⟩ := ifB_some h3
    obtain ⟨h6, h7⟩ := again_ok h5
    refine ⟨h6, fun q' hq' => ?_⟩
    rcases List.mem_cons.1 hq' with rfl | hq'
    · refine ⟨v, h1, h2, fun d hd => ?_⟩
      rw [hd] at h4
      exact avEq_ok h4
    · exact h7 q' hq'

/-- One that does more. -/
theorem Mid.hardStep (hc : CallOk P call) (hm : Mid P n m ops L pre D ids r0 h0 w0 r t h a w) (hp : Pre ops n all pre c) (ha : AllOk ops L all) {p : PS} (hpa : p ∈ all) (hk : okP ops n all c (p :: l) = true) (hh : ¬ clsO p.o.op < 2) (hah : ∀ j, Nat.testBit p.m j = true → D j = true)
    (hdone : ∀ q, q ∈ done ↔ q ∈ pre ∧ clsO q.o.op = 0) (hf : (planB P n ops done (p :: l)).f call t h k = some x)
    (hK : ∀ r' t' h' a' w', Mid P n m ops L (p :: pre) (withI D p.i) ids r0 h0 w0 r' t' h' a' w' → (planB P n ops done l).f call t' h' k = some x → Post P r h w r' h' w' → (∃ v, t' = (putF n p.o.dst).f t v) → K a' w') : wpOpIn (fw ro) 0 P ops Q p.i K a w := by
  obtain ⟨k1, k2, k3, k4, k5, k6⟩ := okP_cons hk
  have hnp : ∀ q ∈ pre, q.i ≠ p.i := fun q hq e => by
    have := (hp.bits p.i).2 ⟨q, hq, e⟩
    rw [this] at k2
    cases k2
  have hseen : SeenOk r t a (seenBy ops p.o) := hm.seen hp hpa hah (fun _ _ _ => rfl) fun q hq _ e => absurd e.symm (hnp q hq)
  have hf : (stepB P n ops p.o (againB P ops (planB P n ops done l) (done.filter fun q => !Nat.testBit p.m q.i))).f call t h k = some x := by
    have e : planB P n ops done (p :: l) = stepB P n ops p.o (againB P ops (planB P n ops done l) (done.filter fun q => !Nat.testBit p.m q.i)) := by
      rw [planB]
      split
      · omega
      · omega
      · rfl
    rw [← e]
    exact hf
  have hLp : L p.i = false := by
    cases hb : L p.i with
    | false => rfl
    | true => exact absurd (ha.late p hpa hb) (by omega)
  refine step_ok hc (ha.op p hpa hLp) hf hm.post.rel (seen_ev hseen) (fun j want d hg hd => hseen d ?_) fun v v' s h' w' h1 h2 h3 => ?_
  · unfold seenBy
    rw [hg]
    simp only [hd]
    simp
  obtain ⟨h4, h5⟩ := again_ok h1
  refine hK s _ h' _ w' ⟨put_size.trans hm.sz, hm.le, by rw [put_defers]; exact hm.marks.step h3 hm.post.rel, fun q hq hc => ?_, fun i hi => ?_, fun i hi hno => ?_, fun q hq hDq => ?_, fun q hq q' hq' hDq hDq' => ?_, fun q hq hDq j hj => ?_, hm.post.trans h3⟩ h4 h3 ⟨v, rfl⟩
  · rcases List.mem_cons.1 hq with rfl | hq
    · exact withI_self _ _
    · exact withI_old (hm.hard q hq hc)
  · rcases withI_true hi with e | rfl
    · obtain ⟨q, e1, e2⟩ := hm.sub i e
      exact ⟨q, List.mem_cons_of_mem _ e1, e2⟩
    · exact ⟨p, List.mem_cons_self, rfl⟩
  · refine put_ok hm.le hm.sz hi h2 ?_ fun e => .inr (k3 i e)
    by_cases e : p.o.dst = some i
    · exact .inl e
    · refine .inr ((hm.fr i hi fun q hq hDq => hno q (List.mem_cons_of_mem _ hq) ?_).mono h3.ext)
      simp only [withI, hDq, Bool.false_or]
      cases hb : Nat.beq q.i p.i with
      | false => rfl
      | true => exact absurd (beq_of hb) (hnp q hq)
  · obtain ⟨hDq, hne⟩ := withI_false hDq
    have hq : q ∈ pre := by
      rcases List.mem_cons.1 hq with rfl | hq
      · exact absurd rfl hne
      · exact hq
    have hnb : Nat.testBit p.m q.i = false := by
      cases hb : Nat.testBit p.m q.i with
      | false => rfl
      | true => rw [hah _ hb] at hDq; cases hDq
    have hnm : namesT ops p.o.dst q = false := by
      rcases (k5 hh).2 q (hp.mem q hq) with e | e | e | e
      · exact absurd e hne
      · exact e
      · rw [hp.sub q hq _ e] at k2; cases k2
      · rw [hnb] at e; cases e
    have keep : ∀ d, d < 512 → namesT ops (some d) q = true → ((putF n p.o.dst).f t v).get d = t.get d := fun d hd hn => by
      refine putF_ne hm.le hd fun e => ?_
      rw [e, hn] at hnm
      cases hnm
    by_cases hLq : L q.i = true
    · exact .inl hLq
    have hLq : L q.i = false := by simpa using hLq
    obtain ⟨ts, u, k7, k8, k9⟩ := (hm.lag q hq hDq).resolve_left (by rw [hLq]; exact Bool.false_ne_true)
    have old : ∀ d ∈ seenBy ops q.o, d < 512 → ts.get d = ((putF n p.o.dst).f t v).get d := fun d hd hd5 => by
      rw [keep d hd5 (names_seen hd)]
      exact k7 d hd hd5
    have old2 : ∀ d, q.o.dst = some d → ((putF n p.o.dst).f t v).get d = u := fun d hd => by
      rw [keep d (Nat.lt_of_lt_of_le (hp.dst q hq d hd) hm.le) (names_dst hd)]
      exact k8 d hd
    rcases k9 with ⟨e0, -⟩ | k9 | ⟨j, ob, e1, e2, e3, e4, e5, e6, e7⟩
    · obtain ⟨v1, g1, m1, m2⟩ := h5 q (List.mem_filter.2 ⟨(hdone q).2 ⟨hq, e0⟩, by simp [hnb]⟩)
      refine .inr ⟨_, v1, fun _ _ _ => rfl, fun d hd => ?_, .inl ⟨e0, lag_plain (ha.op q (hp.mem q hq) hLq) e0 m1⟩⟩
      rw [m2 d hd, ev_get _ (Nat.lt_of_lt_of_le (hp.dst q hq d hd) hm.le)]
    · exact .inr ⟨ts, u, old, old2, .inr (.inl k9)⟩
    · refine .inr ⟨ts, u, old, old2, .inr (.inr ⟨j, ob, e1, e2, e3, ?_, e5, Nat.lt_of_lt_of_le e6 h3.nxt, fun o' ho => e7 o' ?_⟩)⟩
      · cases hs : s j with
        | none => rfl
        | some pl =>
          rcases h3.new j pl hs with e | e
          · rw [e4] at e; cases e
          · omega
      · rw [← h3.keep j e6 e4]
        exact ho
  · obtain ⟨hDq, hne⟩ := withI_false hDq
    obtain ⟨hDq', hne'⟩ := withI_false hDq'
    have hq : q ∈ pre := (List.mem_cons.1 hq).elim (fun e => absurd (by rw [e]) hne) id
    have hq' : q' ∈ pre := (List.mem_cons.1 hq').elim (fun e => absurd (by rw [e]) hne') id
    exact hm.inj q hq q' hq' hDq hDq'
  · obtain ⟨hDq, hne⟩ := withI_false hDq
    have hq : q ∈ pre := (List.mem_cons.1 hq).elim (fun e => absurd (by rw [e]) hne) id
    exact Nat.lt_of_lt_of_le (hm.low q hq hDq j hj) h3.nxt

/-- Between two operations that do more. -/
def Still (P : Program) (n m : Nat) (call : CallT) (ops : Array Oper) (L : Nat → Bool) (X : (Nat → Bool) → List PS → (Nat → Option Nat) → Ren → Fr → AH → World → Prop) (all : List PS) (k : KC) (x : AV × AH) (r0 : Ren) (h0 : AH) (w0 : World) (D : Nat → Bool) (a : Act) (w : World) : Prop :=
  ∃ pre l done c ids r t h, Mid P n m ops L pre D ids r0 h0 w0 r t h a w ∧ X D pre ids r t h w ∧ Pre ops n all pre c ∧ okP ops n all c l = true ∧ (∀ p ∈ l, p ∈ all) ∧ (∀ q, q ∈ done ↔ q ∈ pre ∧ clsO q.o.op = 0) ∧ (planB P n ops done l).f call t h k = some x ∧ ∀ p l', l = p :: l' → ¬ clsO p.o.op < 2

/-- What stands beside, whatever is reckoned. -/
def Keeps (P : Program) (n m : Nat) (ops : Array Oper) (L : Nat → Bool) (X : (Nat → Bool) → List PS → (Nat → Option Nat) → Ren → Fr → AH → World → Prop) (all : List PS) (r0 : Ren) (h0 : AH) (w0 : World) (D : Nat → Bool) (r : Ren) (a : Act) (w : World) : Prop :=
  ∀ (pre : List PS) (c : Nat) (ids : Nat → Option Nat) (t : Fr) (h : AH) (p : PS) (v : AV) (h1 : AH) (id : Option Nat), Mid P n m ops L pre D ids r0 h0 w0 r t h a w → Pre ops n all pre c → p ∈ all → Nat.testBit c p.i = false → clsO p.o.op < 2 → (h1 = h ∨ ∃ ob, h1 = h.new ob) → (id = none ∨ id = some h.next ∧ h.next < h1.next) → X D pre ids r t h w → X D (p :: pre) (fun i => if i = p.i then id else ids i) r ((putF n p.o.dst).f t v) h1 w
theorem settle {X : (Nat → Bool) → List PS → (Nat → Option Nat) → Ren → Fr → AH → World → Prop} (ha : AllOk ops L all) (hX : Keeps P n m ops L X all r0 h0 w0 D r a w) : ∀ (l : List PS) {pre done : List PS} {c : Nat} {ids : Nat → Option Nat} {t : Fr} {h : AH}, Mid P n m ops L pre D ids r0 h0 w0 r t h a w → X D pre ids r t h w → Pre ops n all pre c → okP ops n all c l = true → (∀ p ∈ l, p ∈ all) → (∀ q, q ∈ done ↔ q ∈ pre ∧ clsO q.o.op = 0) → (planB P n ops done l).f call t h k = some x → Still P n m call ops L X all k x r0 h0 w0 D a w
  | [], pre, done, c, ids, t, h, hm, hx, hp, hk, hl, hd, hf => ⟨pre, [], done, c, ids, r, t, h, hm, hx, hp, hk, hl, hd, hf, fun _ _ e => by cases e⟩
  | p :: l, pre, done, c, ids, t, h, hm, hx, hp, hk, hl, hd, hf => by
    have hpa := hl p List.mem_cons_self
    by_cases hc : clsO p.o.op < 2
    · rcases Nat.lt_or_ge (clsO p.o.op) 1 with h1 | h1
      · have hc0 : clsO p.o.op = 0 := by omega
        have e : planB P n ops done (p :: l) = ⟨plainC (guardO P ops p.o).f (putF n p.o.dst).f (planB P n ops (p :: done) l).f⟩ := by
          rw [planB, hc0]; rfl
        rw [e] at hf
        have hf : optK none ((guardO P ops p.o).f t h fun v h => some (v, h)) (fun q => Prod.rec (motive := fun _ => R) (fun v _ => (planB P n ops (p :: done) l).f call ((putF n p.o.dst).f t v) h k) q) = some x := hf
        obtain ⟨⟨v, h2⟩, h3, h4⟩ := optK_some hf
        refine settle ha hX l (hm.soft (id := none) hp hpa hk ha.uniq hc (.inl rfl) (.inl rfl) (by
          cases hb : L p.i with
          | true => exact .inl rfl
          | false => exact .inr (.inl ⟨hc0, lag_plain (ha.op p hpa hb) hc0 h3⟩))) (hX _ _ _ _ _ _ _ _ none hm hp hpa (okP_cons hk).2.1 hc (.inl rfl) (.inl rfl) hx) (hp.add hpa hk) (okP_cons hk).2.2.2.2.2 (fun q hq => hl q (List.mem_cons_of_mem _ hq)) (fun q => ?_) h4
        constructor
        · intro hq
          rcases List.mem_cons.1 hq with rfl | hq
          · exact ⟨List.mem_cons_self, hc0⟩
          · exact ⟨List.mem_cons_of_mem _ ((hd q).1 hq).1, ((hd q).1 hq).2⟩
        · rintro ⟨hq, e2⟩
          rcases List.mem_cons.1 hq with rfl | hq
          · exact List.mem_cons_self
          · exact List.mem_cons_of_mem _ ((hd q).2 ⟨hq, e2⟩)
      · have hc1 : clsO p.o.op = 1 := by omega
        have e : planB P n ops done (p :: l) = ⟨softC (guardO P ops p.o).f (putF n p.o.dst).f (planB P n ops done l).f⟩ := by
          rw [planB, hc1]; rfl
        rw [e] at hf
        have hf : optK none ((guardO P ops p.o).f t h fun v h => some (v, h)) (fun q => Prod.rec (motive := fun _ => R) (fun v h => (planB P n ops done l).f call ((putF n p.o.dst).f t v) h k) q) = some x := hf
        obtain ⟨⟨v, h2⟩, h3, h4⟩ := optK_some hf
        have hdn : ∀ q, q ∈ done ↔ q ∈ p :: pre ∧ clsO q.o.op = 0 := fun q => by
          rw [hd q]
          constructor
          · rintro ⟨h5, h6⟩
            exact ⟨List.mem_cons_of_mem _ h5, h6⟩
          · rintro ⟨h5, h6⟩
            rcases List.mem_cons.1 h5 with rfl | h5
            · omega
            · exact ⟨h5, h6⟩
        have hnx : h0.next ≤ h.next := hm.post.nxt
        have hLp : L p.i = false := by
          cases hb : L p.i with
          | false => rfl
          | true => exact absurd (ha.late p hpa hb) (by omega)
        rcases lag_late (ha.op p hpa hLp) hc1 h3 with ⟨rfl, h5⟩ | ⟨ob, rfl, h5⟩
        · exact settle ha hX l (hm.soft (id := none) hp hpa hk ha.uniq hc (.inl rfl) (.inl rfl) (.inr (.inr (.inl ⟨hc1, h5⟩)))) (hX _ _ _ _ _ _ _ _ none hm hp hpa (okP_cons hk).2.1 hc (.inl rfl) (.inl rfl) hx) (hp.add hpa hk) (okP_cons hk).2.2.2.2.2 (fun q hq => hl q (List.mem_cons_of_mem _ hq)) hdn h4
        · refine settle ha hX l (hm.soft (id := some h.next) hp hpa hk ha.uniq hc (.inr ⟨ob, rfl⟩) (.inr ⟨rfl, by simp⟩) (.inr (.inr (.inr ⟨h.next, ob, hc1, rfl, h5, hm.post.rel.fresh, hnx, by simp, fun o' ho => ?_⟩)))) (hX _ _ _ _ _ _ _ _ (some h.next) hm hp hpa (okP_cons hk).2.1 hc (.inr ⟨ob, rfl⟩) (.inr ⟨rfl, by simp⟩) hx) (hp.add hpa hk) (okP_cons hk).2.2.2.2.2 (fun q hq => hl q (List.mem_cons_of_mem _ hq)) hdn h4
          rw [AH.get_new] at ho
          split at ho
          · cases ho; rfl
          · have := hm.post.rel.top _ _ ho
            exact absurd this (Nat.lt_irrefl _)
    · exact ⟨pre, p :: l, done, c, ids, r, t, h, hm, hx, hp, hk, hl, hd, hf, fun p' l' e => by cases e; exact hc⟩
end
end Go.Proofs.YtlclpcobblojnaaGreatDoor
/- The machine for closed runs: a region that draws its order, whole. -/
namespace Go.Proofs.YtlclpcobblojnaaGreatDoor

/-- How many are not listed. -/
def cntF : List Bool → Nat
  | [] => 0
  | b :: l => (if b then 0 else 1) + cntF l
theorem cntF_set : ∀ (l : List Bool) (i : Nat), l[i]? = some false → cntF (l.set i true) + 1 = cntF l
  | [], i, h => by simp at h
  | b :: l, 0, h => by
    simp at h
    subst h
    simp [cntF]
    omega
  | b :: l, i + 1, h => by
    have := cntF_set l i (by simpa using h)
    simp only [List.set_cons_succ, cntF]
    omega
theorem cntF_zero : ∀ (l : List Bool), cntF l = 0 → ∀ i, i < l.length → l[i]? = some true
  | [], _, i, h => by simp at h
  | b :: l, h, 0, _ => by
    cases b with
    | true => rfl
    | false => simp [cntF] at h
  | b :: l, h, i + 1, hi => by
    have : cntF l = 0 := by unfold cntF at h; omega
    simpa using cntF_zero l this i (by simpa using hi)
theorem cntF_rep (n : Nat) : cntF (List.replicate n false) = n := by
  induction n with
  | zero => rfl
  | succ n ih => simp only [List.replicate_succ, cntF, ih]; simp; omega

section
variable {P : Program} {n : Nat} {call : CallT} {ops : Array Oper} {Q : Exit → Act → World → Prop} {md : Region.Mode} {F : Fence}

theorem all_listed (hacyc : ∀ (i : Nat) (o : Oper), ops[i]? = some o → ∀ e ∈ o.after, Region.binds md e = true → e.on < i) {listed : Array Bool} (hs : listed.size = ops.size) (hr : Region.ready md ops listed = []) : ∀ i, i < ops.size → listed.getD i true = true := by
  intro i
  induction i using Nat.strongRecOn with
  | ind i ih =>
    intro hi
    cases hl : listed.getD i true with
    | true => rfl
    | false =>
      exfalso
      have ho : ops[i]? = some ops[i] := Array.getElem?_eq_getElem hi
      have : i ∈ Region.ready md ops listed := mem_ready.2 ⟨hl, ops[i], ho, fun e he hb => by
        have h1 := hacyc i _ ho e he hb
        have h2 := ih e.on h1 (by omega)
        have h3 : e.on < listed.size := by omega
        simp [h3] at h2 ⊢
        exact h2⟩
      rw [hr] at this
      cases this
/-- Whatever order is picked: the invariant stands to the end. -/
theorem wpAny_inv (I : Array Bool → Act → World → Prop) (hacyc : ∀ (i : Nat) (o : Oper), ops[i]? = some o → ∀ e ∈ o.after, Region.binds md e = true → e.on < i)
    (hstep : ∀ listed a w i, listed.size = ops.size → I listed a w → i ∈ Region.ready md ops listed → wpOpIn F 0 P ops Q i (I (listed.setIfInBounds i true)) a w)
    (hend : ∀ listed a w, listed.size = ops.size → (∀ i, i < ops.size → listed.getD i true = true) → I listed a w → Q .normal a w) :
    ∀ (fuel : Nat) (listed : Array Bool) (a : Act) (w : World), listed.size = ops.size → cntF listed.toList ≤ fuel → I listed a w → wpAnyIn F 0 P md ops Q fuel listed a w := by
  intro fuel
  induction fuel with
  | zero =>
    intro listed a w hs hc hI
    have hall : ∀ i, i < ops.size → listed.getD i true = true := by
      intro i hi
      have := cntF_zero listed.toList (by omega) i (by simpa [hs] using hi)
      have h2 : i < listed.size := by omega
      simp [h2] at this ⊢
      exact this
    refine ⟨?_, hend listed a w hs hall hI⟩
    cases hr : Region.ready md ops listed with
    | nil => rfl
    | cons j l =>
      exfalso
      have hj : j ∈ Region.ready md ops listed := by rw [hr]; simp
      obtain ⟨h1, o, h2, -⟩ := mem_ready.1 hj
      have h3 : j < ops.size := (Array.getElem?_eq_some_iff.1 h2).1
      rw [hall j h3] at h1
      cases h1
  | succ fuel ih =>
    intro listed a w hs hc hI
    refine ⟨fun hr => hend listed a w hs (all_listed hacyc hs hr) hI, fun i hi => ?_⟩
    have h1 := (mem_ready.1 hi).1
    obtain ⟨o, h2, -⟩ := (mem_ready.1 hi).2
    have h3 : i < ops.size := (Array.getElem?_eq_some_iff.1 h2).1
    have h4 : i < listed.size := by omega
    have h5 : listed.toList[i]? = some false := by simp [h4] at h1 ⊢; exact h1
    refine wpOpIn_mono (fun a' w' hI' => ih _ a' w' (by simpa using hs) ?_ hI') (hstep listed a w i hs hI hi)
    have := cntF_set listed.toList i h5
    rw [Array.toList_setIfInBounds]
    omega

theorem withI_listed {listed : Array Bool} {i : Nat} (hi : i < listed.size) : (fun j => (listed.setIfInBounds i true).getD j false) = withI (fun j => listed.getD j false) i := by
  funext j
  unfold withI
  by_cases e : j = i
  · subst e
    simp [hi, Nat.beq_refl]
  · have hb : Nat.beq j i = false := by
      cases hb : Nat.beq j i with
      | false => rfl
      | true => exact absurd (beq_of hb) e
    simp [Array.getD_eq_getD_getElem?, Array.getElem?_setIfInBounds_ne (Ne.symm e), hb]

theorem draw1_ok {rd : Bool} (hm : P.follows .mixedOrders = true) (hc : CallOk P call) (id : Nat) (ops : Array Oper) {no : Bx CodeT} (hE : okE 0 ops.toList = true) (hno : CodeOk P n call (.region id ops true) no.f rd) : CodeOk P n call (.region id ops true) (drawB1 P n ops no).f rd := by
  intro ro m t h k x r a w hro hf hs
  unfold drawB1 at hf
  · simp only at hf
    split at hf
    · rename_i hP
      have ha := allOk ops
      generalize hall : itemsGo 0 [] ops.toList = all at hf hP ha
      have hpl : ∀ p ∈ planGo ops.size 0 all, p ∈ all := fun p hp => plan_mem _ _ _ _ hp
      generalize planGo ops.size 0 all = pl at hf hP hpl
      have hacyc : ∀ (i : Nat) (o : Oper), ops[i]? = some o → ∀ e ∈ o.after, Region.binds .any e = true → e.on < i := fun i o ho e he hb => by
        have := okE_ok 0 ops.toList hE i o (by simpa using ho) e he hb
        omega
      refine wpIn_region_any hm ?_
      let I : Array Bool → Act → World → Prop := fun listed a' w' => Still P n m call ops (fun _ => false) (fun _ _ _ _ _ _ _ => True) all k x r h w (fun j => listed.getD j false) a' w' ∧ ∀ i o, ops[i]? = some o → listed.getD i false = true → Ahead (fun j => listed.getD j false) o
      have hD0 : (fun j => (Array.replicate ops.size false).getD j false) = fun _ => false := by
        funext j
        by_cases hj : j < ops.size <;> simp [hj]
      refine wpAny_inv (md := .any) I hacyc (fun listed a' w' i hsz hI hi => ?_) (fun listed a' w' hsz hdone hI => ?_) ops.size _ a _ (by simp) (by rw [Array.toList_replicate, cntF_rep]; exact Nat.le_refl _) ⟨?_, fun i o _ hl => ?_⟩
      · -- one is picked
        obtain ⟨⟨pre, l, done, c, ids, r', t', h', k1, -, k2, k3, k4, k5, k6, k7⟩, hcl⟩ := hI
        obtain ⟨hl0, o, ho, hrd⟩ := mem_ready.1 hi
        have hlt : i < listed.size := by rw [hsz]; exact (Array.getElem?_eq_some_iff.1 ho).1
        have hDi : listed.getD i false = false := by simp [hlt] at hl0 ⊢; exact hl0
        have hah : Ahead (fun j => listed.getD j false) o := fun e he hb => hrd e he hb
        have hcl' : ∀ i' o', ops[i']? = some o' → (listed.setIfInBounds i true).getD i' false = true → Ahead (fun j => (listed.setIfInBounds i true).getD j false) o' := fun i' o' ho' hl' => by
          have e := withI_listed hlt
          have h1 : withI (fun j => listed.getD j false) i i' = true := by rw [← e]; exact hl'
          rw [e]
          rcases withI_true h1 with h1 | rfl
          · exact fun e he hb => withI_old (hcl i' o' ho' h1 e he hb)
          · rw [ho] at ho'
            cases ho'
            exact fun e he hb => withI_old (hah e he hb)
        have hmask : ∀ p ∈ all, p.i = i → ∀ j, Nat.testBit p.m j = true → listed.getD j false = true := fun p hp hpi => by
          have := ha.op p hp rfl
          rw [hpi, ho] at this
          cases this
          exact ha.ahead _ hcl p hp hah
        by_cases hin : ∃ p ∈ pre, p.i = i
        · obtain ⟨p, hpp, rfl⟩ := hin
          refine k1.pick k2 ha hpp rfl hDi (hmask p (k2.mem p hpp) rfl) fun r2 a2 w2 hm2 _ => ⟨?_, hcl'⟩
          rw [withI_listed hlt]
          exact ⟨pre, l, done, c, ids, r2, t', h', hm2, trivial, k2, k3, k4, k5, k6, k7⟩
        · have hbit : Nat.testBit c i = false := by
            cases hb : Nat.testBit c i with
            | false => rfl
            | true => exact absurd ((k2.bits i).1 hb) hin
          rcases okP_all k3 i (by omega) with e | ⟨q, hq, hqi⟩
          · rw [e] at hbit; cases hbit
          · cases l with
            | nil => cases hq
            | cons p l =>
              have hh := k7 p l rfl
              have hpa := k4 p List.mem_cons_self
              have hpi : p.i = i := by
                rcases List.mem_cons.1 hq with rfl | hq
                · exact hqi
                · have e1 := ((okP_cons k3).2.2.2.2.1 hh).1 q hq
                  have e2 := hmask q (k4 q (List.mem_cons_of_mem _ hq)) hqi _ e1
                  have e3 := (k2.bits p.i).2 (k1.sub _ e2)
                  rw [(okP_cons k3).2.1] at e3
                  cases e3
              subst hpi
              refine k1.hardStep hc k2 ha hpa k3 hh (hmask p hpa rfl) k5 k6 fun r2 t2 h2 a2 w2 hm2 hf2 _ _ => ⟨?_, hcl'⟩
              rw [withI_listed hlt]
              refine settle ha (fun _ _ _ _ _ _ _ _ _ _ _ _ _ _ _ _ _ => trivial) l hm2 trivial (k2.add hpa k3) (okP_cons k3).2.2.2.2.2 (fun q hq => k4 q (List.mem_cons_of_mem _ hq)) (fun q => ?_) hf2
              rw [k5 q]
              constructor
              · rintro ⟨h5, h6⟩
                exact ⟨List.mem_cons_of_mem _ h5, h6⟩
              · rintro ⟨h5, h6⟩
                rcases List.mem_cons.1 h5 with rfl | h5
                · exact absurd (by omega) hh
                · exact ⟨h5, h6⟩
      · -- all are done
        obtain ⟨⟨pre, l, done, c, ids, r', t', h', k1, -, k2, k3, k4, k5, k6, k7⟩, hcl⟩ := hI
        have hD : ∀ p ∈ all, listed.getD p.i false = true := fun p hp => by
          have hlt := (Array.getElem?_eq_some_iff.1 (ha.op p hp rfl)).1
          have := hdone p.i hlt
          have h2 : p.i < listed.size := by omega
          simp [h2] at this ⊢
          exact this
        cases l with
        | cons p l =>
          have e3 := (k2.bits p.i).2 (k1.sub _ (hD p (k4 p List.mem_cons_self)))
          rw [(okP_cons k3).2.1] at e3
          cases e3
        | nil =>
          refine ⟨0, 0, t', h', r', k6, rfl, ⟨fun i hi => k1.fr i hi fun p hp hDp => ?_, k1.sz, k1.le, k1.post.rel, k1.marks, Nat.le_trans hs.low k1.post.size⟩, k1.post⟩
          rw [hD p (k2.mem p hp)] at hDp
          cases hDp
      · -- the beginning
        rw [hD0]
        refine settle ha (fun _ _ _ _ _ _ _ _ _ _ _ _ _ _ _ _ _ => trivial) pl (pre := []) (ids := fun _ => none) ⟨hs.sz, hs.le, Marks.far (w := w) (w' := w.drew) (fun _ _ => rfl) hs.marks, fun _ h => (by cases h), fun _ h => (by cases h), fun i hi _ => hs.fr i hi, fun _ h => (by cases h), fun _ h => (by cases h), fun _ h => (by cases h), Post.drew hs.rel⟩ trivial Pre.nil hP hpl (fun q => by simp) hf
      · have : (fun j => (Array.replicate ops.size false).getD j false) i = true := hl
        rw [hD0] at this
        cases this
    · exact hno ro m t h k x r a w hro hf hs
end
end Go.Proofs.YtlclpcobblojnaaGreatDoor
