/- FlowBlocks: for every flow the law returns true and its argument reads as before; no condition but that the listed tables are laid, which the card ties to the text. Part 8 of 8. -/
import Derived.Test.YtlclpcobblojnaaGreatDoorBlo07
import Derived.Below
import Derived.Test.YtlclpcobblojnaaGreatDoorProg
import Derived.Test.YtlclpcobblojnaaGreatDoorRows
import Derived.ProofKit
import Derived.ChangeSame
import Derived.Lib.SmallJoins
import Derived.Deep.Slices
import Derived.Test.YtlclpcobblojnaaGreatDoorCards
import Derived.Test.YtlclpcobblojnaaGreatDoorTie
import Derived.Lay
import Derived.LaidLaws
/- The machine for closed runs: a range over a map in any order: blocks. -/
namespace Go.Proofs.YtlclpcobblojnaaGreatDoor

/-- What the shape says. -/
theorem anyShape_ok {id : Nat} {b : Code} {q : AnyP} (h : anyShape id b = some q) : ∃ rid1 rid2 o20 x20 x21 e0 , b = .loop (.seq (.region rid1 o20 false) (.seq (.cond (.tmp q.c) .skip (.exit id)) (.block q.id2 (.seq (.region rid2 q.o21 false) q.rest)))) ∧
    o20.toList = [x20, x21] ∧ q.o21.toList = e0 :: q.tail ∧ x20.op = .next (.tmp q.it) false ∧ x21.op = .extract (.tmp q.n1) 0 ∧ e0.op = .entry (.tmp q.it) ∧ x20.dst = some q.n1 ∧ x21.dst = some q.c ∧ e0.dst = some q.e1 ∧
    x20.guard = none ∧ x21.guard = none ∧ e0.guard = none ∧ q.it ≠ q.n1 ∧ q.it ≠ q.c := by
  unfold anyShape at h
  split at h
  · rename_i rid1 o20 c id' id2 rid2 o21 rest
    unfold anyOps at h
    split at h
    · rename_i a b e tail h20 h21
      split at h
      · rename_i it m1 it' n1 c' e1 p1 p2 p3 p4 p5 p6 p7 p8 p9
        split at h
        · rename_i hc
          simp only [Bool.and_eq_true, Bool.not_eq_true'] at hc
          obtain ⟨⟨⟨⟨⟨⟨c1, c2⟩, c3⟩, c4⟩, c5⟩, c6⟩, c7⟩ := hc
          have c1 := beq_of c1
          have c2 := beq_of c2
          have c3 := beq_of c3
          have c4 := beq_of c4
          subst c1
          subst c2
          subst c3
          subst c4
          cases h
          exact ⟨rid1, rid2, o20, a, b, e, rfl, h20, h21, p1, p2, p3, p4, p5, p6, p7, p8, p9, (fun e => by rw [show Nat.beq it _ = true from (congrArg (Nat.beq it) e.symm).trans (Nat.beq_refl it)] at c5; cases c5), (fun e => by rw [show Nat.beq it _ = true from (congrArg (Nat.beq it) e.symm).trans (Nat.beq_refl it)] at c6; cases c6)⟩
        · cases h
      · cases h
    · cases h
  · cases h

section
variable {P : Program} {n : Nat} {call : CallT}
theorem any_ok {rd : Bool} {id : Nat} {b : Code} {q : AnyP} {J sh : List Nat} {fr : CodeT} {ord : CodeT} (hq : anyShape id b = some q) (l1 : q.n1 < n) (l2 : q.c < n) (j1 : J.elem q.n1 = true) (j2 : J.elem q.c = true) (hc : CallOk P call) (hrest : CodeOk P n call q.rest fr rd) (hord : CodeOk P n call (.block id b) ord rd) :
    CodeOk P n call (.block id b) (anyC q J sh n (seqC (opsB P n q.o21 q.tail).f fr) ord) rd := by
  intro ro m t h k x r a w hro hf hs
  have hf : ifB (anyTest h ((evB (.tmp q.it)).f t)) (iterK h ((evB (.tmp q.it)).f t) fun r m => ifB (ownsOk m.es && !J.elem q.it && (List.casesOn r.ns true fun _ _ => false) && (Option.casesOn ((mapsK h t ⟨.nil, h.next⟩ sh).get r.n) true fun _ => false)) (anyAllK (anyOneK q J sh n (seqC (opsB P n q.o21 q.tail).f fr) call t h) m.es (h.put ((evB (.tmp q.it)).f t).b none) fun h' => k 0 0 (junkK t J) h') none) (ord call t h k) = some x := hf
  cases htest : anyTest h ((evB (.tmp q.it)).f t) with
  | false =>
    rw [htest, ifB_f] at hf
    exact hord ro m t h k x r a w hro hf hs
  | true =>
    rw [htest, ifB_t] at hf
    obtain ⟨h1, h2, h3, ri, mo, h4, h5, h6, h7, h8, hf⟩ := iterK_some hf
    obtain ⟨h9, hf⟩ := ifB_some hf
    simp only [Bool.and_eq_true, Bool.not_eq_true'] at h9
    obtain ⟨⟨⟨o1, o2⟩, o3⟩, o4⟩ := h9
    have hit : q.it < 512 := Classical.byContradiction fun e => by rw [ev_big t e] at h1; cases h1
    obtain ⟨pit, q1, -, q3⟩ := (evB_ok hs.fr (.tmp q.it)).inv3 h1 h2
    obtain ⟨pm, c1, c2, c3, c4⟩ := iter_live hs.rel h4 h5 q1
    obtain ⟨cur, d1, d2, d3⟩ := map_live hs.rel h6 h7 c2
    rw [h8] at d1 d3
    have hns : ri.ns = [] := by
      cases hns : ri.ns with
      | nil => rfl
      | cons b l => rw [hns] at o3; cases o3
    rw [hns] at c1
    have hown := ownsOk_ok o1
    obtain ⟨res, hk, hgood⟩ := anyAll_ok (Good := GoodE q J sh n (seqC (opsB P n q.o21 q.tail).f fr) call t h) (fun e k hf => anyOne_ok e k hf) (hown.imp fun hh => hh.2) hf
    have hmno : (mapsK h t ⟨.nil, h.next⟩ sh).get ri.n = none := by
      cases hg : (mapsK h t ⟨.nil, h.next⟩ sh).get ri.n with
      | none => rfl
      | some o => rw [hg] at o4; cases o4
    have H : AnyH P n call q J sh (seqC (opsB P n q.o21 q.tail).f fr) t r h w mo.es res ((evB (.tmp q.it)).f t).b ri.n pit pm :=
      ⟨hs.rel, q1, ⟨ri, h4, h5⟩, c2, ⟨mo, h6, h7⟩, hmno, hgood, hown, hs.le, fun i hi hi5 => by
        by_cases hJ : J.elem i = true
        · rw [junkK_get hi5, hJ]; exact .junk _
        · rw [junkK_get hi5, if_neg hJ]
          have := hs.fr i hi5
          have e : a.tmps.getD i undef = undef := by simp [Array.getD_eq_getD_getElem?, Array.getElem?_eq_none (by rw [hs.sz]; omega : a.tmps.size ≤ i)]
          rwa [e] at this⟩
    obtain ⟨rid1, rid2, o20, x20, x21, e0, rfl, s1, s2, s3, s4, s5, s6, s7, s8, s9, s10, s11, s12, s13⟩ := anyShape_ok hq
    refine H.loop (cur := cur) (clock := ri.m) (id2 := q.id2) hc hrest hro s1 s2 s3 s4 s5 s6 s7 s8 s9 s10 s11 s12 s13 rfl l1 l2 o2 j1 j2 hit ?_ c3 d1 d2 d3 c1 hs hk
    rw [ev_get t hit] at q3 h3 ⊢
    rw [h3] at q3
    exact q3

theorem blk_ok (hc : CallOk P call) (hm : P.follows .mixedOrders = true) {rd : Bool} (id : Nat) (b : Code) (bb : Bx CodeT) (hb : CodeOk P n call b bb.f rd) : CodeOk P n call (.block id b) (blkB P n rd id b bb).f rd := by
  unfold blkB
  split
  · rename_i q hq
    split
    · rename_i hl
      simp only [Bool.and_eq_true] at hl
      have hrest : CodeOk P n call q.rest (codeB0 P n rd q.rest).f rd := code_ok hc (fun id b bb hb => block_ok hb) (fun id ops => draw_ok hm hc id ops) (fun g ps asg body => rangeF_ok hc g ps asg body) q.rest
      exact any_ok hq (Nat.le_of_ble_eq_true hl.1) (Nat.le_of_ble_eq_true hl.2) (by simp) (by simp) hc hrest (block_ok hb)
    · exact block_ok hb
  · exact block_ok hb
end
end Go.Proofs.YtlclpcobblojnaaGreatDoor
/- The machine for closed runs: functions; every call. -/
namespace Go.Proofs.YtlclpcobblojnaaGreatDoor

section
variable {P : Program} {n m : Nat} {call : CallT} {x : AV × AH}

theorem args_ok {k : Fr → R} : ∀ (N i : Nat) (t : Fr) (xs : List AV), i + N ≤ 512 → (argsB i N).f t xs k = some x → xs.length = N ∧ ∃ t', k t' = some x ∧ ∀ j, j < 512 → t'.get j = if i ≤ j ∧ j < i + N then xs.getD (j - i) .undef else t.get j
  | 0, i, t, [], hi, hf => ⟨rfl, t, hf, fun j hj => by rw [if_neg (by omega)]⟩
  | 0, i, t, _ :: _, hi, hf => by cases hf
  | N + 1, i, t, [], hi, hf => by cases hf
  | N + 1, i, t, y :: xs, hi, hf => by
    obtain ⟨h1, t', h2, h3⟩ := args_ok N (i + 1) ((setF i).f t y) xs (by omega) hf
    refine ⟨by simp [h1], t', h2, fun j hj => ?_⟩
    rw [h3 j hj, setF_get hj (by omega)]
    by_cases e : j = i
    · subst e
      rw [if_neg (by omega), if_pos rfl, if_pos (by omega)]
      simp
    · by_cases e2 : i + 1 ≤ j ∧ j < i + 1 + N
      · rw [if_pos e2, if_pos (by omega)]
        have : j - i = (j - (i + 1)) + 1 := by omega
        rw [this]
        simp
      · rw [if_neg e2, if_neg e, if_neg (by omega)]
theorem start_ok {r : Ren} {xs : List AV} {args : Array Value} {t : Fr} {N : Nat} (hx : VRs r xs args.toList) (hl : xs.length = N) (hN : N ≤ n) (h : ∀ j, j < 512 → t.get j = if 0 ≤ j ∧ j < 0 + N then xs.getD (j - 0) .undef else frame0.get j) :
    FrR r t (args ++ Array.replicate (n - args.size) undef) := by
  have hsz : args.size = N := by have := hx.length; simp at this; omega
  intro j hj
  rw [h j hj]
  by_cases e : j < N
  · rw [if_pos (by omega)]
    have hjx : j < xs.length := by omega
    obtain ⟨v, h1, h2⟩ := hx.get (List.getElem?_eq_getElem hjx)
    have e1 : xs.getD (j - 0) .undef = xs[j] := by simp [hjx]
    have h1' : args[j]? = some v := by simpa using h1
    have e2 : (args ++ Array.replicate (n - args.size) undef).getD j undef = v := by
      rw [Array.getD_eq_getD_getElem?, Array.getElem?_append_left (by omega), h1']
      rfl
    rw [e1, e2]
    exact h2
  · rw [if_neg (by omega), frame0_get]
    have e2 : (args ++ Array.replicate (n - args.size) undef).getD j undef = undef := by
      rw [Array.getD_eq_getD_getElem?, Array.getElem?_append_right (by omega), Array.getElem?_replicate]
      split <;> rfl
    rw [e2]
    exact VR.undef

def resSem (tmps : Array Value) (v : ResultVar) : Sem Value :=
  match v with
  | .tmp t => pure (tmps.getD t undef)
  | .cell a t => do loadVar t (← asAddr (tmps.getD a undef))
theorem res_ok {r : Ren} {h : AH} {w : World} {t : Fr} {tmps : Array Value} (hr : Rel P r h w) (hfr : FrR r t tmps) : ∀ (rs : List ResultVar) (k : List AV → R), (resB P rs).f t h k = some x →
    ∃ l vs, k l = some x ∧ (rs.mapM (resSem tmps)).run P w = .ok vs w ∧ VRs r l vs
  | [], k, hf => ⟨[], [], hf, by simp, .nil⟩
  | .tmp i :: rs, k, hf => by
    obtain ⟨l, vs, h1, h2, h3⟩ := res_ok hr hfr rs _ hf
    refine ⟨_, tmps.getD i undef :: vs, h1, ?_, .cons (evB_ok (a := { tmps := tmps, defers := [] }) hfr (.tmp i)) h3⟩
    rw [List.mapM_cons]
    simp [resSem, h2]
  | .cell i ty :: rs, k, hf => by
    obtain ⟨h1, h2, ob, h3, h4, hf⟩ := cellsK_some hf
    obtain ⟨p, h5, h6, -⟩ := (evB_ok (a := { tmps := tmps, defers := [] }) hfr (.tmp i)).inv3 h1 h2
    obtain ⟨cur, fz, c1, c2, c3, c4, c5, c6, -⟩ := (hr.live _ _ _ h3 h5).cells h4
    obtain ⟨av, v, h7, h8, h9⟩ := part_load (P := P) (r := r) (w := w) (b := p.blk) (base := p.base) hf fun j b hj => by
      obtain ⟨v, h, h'⟩ := c6 j b hj
      exact ⟨v, by rw [cell_of c1]; exact h, h'⟩
    obtain ⟨l, vs, h10, h11, h12⟩ := res_ok hr hfr rs _ h7
    have h6' : tmps.getD i undef = .pointer (some ⟨p.blk, p.base + ((evB (.tmp i)).f t).c, none⟩) := h6
    refine ⟨_, v :: vs, h10, ?_, .cons h9 h12⟩
    rw [List.mapM_cons]
    simp [resSem, h6', asAddr, h8, h11]

theorem tup_ok {r : Ren} : ∀ {l : List AV} {vs : List Value}, VRs r l vs → VR r (tupA l) (if h : vs.toArray.size = 1 then vs.toArray[0] else .tuple vs.toArray)
  | _, _, .nil => .tup #[] .nil
  | _, _, .cons h .nil => h
  | _, _, .cons h (.cons h2 t) => .tup _ (.cons h (.cons h2 t))

/-- A block that nothing lives in is written. -/
theorem off_ok {r : Ren} {h : AH} {w : World} (hr : Rel P r h w) {b : Nat} {d d' : Option (List Deferred)} (hb : w.heap[b]? = some (.deferred d)) : Rel P r h (wobj w b (.deferred d')) :=
  ⟨hr.small, fun i o p h1 h2 => (hr.live i o p h1 h2).same (by
    have : p.blk ≠ b := fun e => (hr.live i o p h1 h2).no_mark (e ▸ hb)
    simp [wobj, Array.getElem?_setIfInBounds_ne (Ne.symm this)]), hr.inj, fun i p hp => ⟨(hr.dom i p hp).1, by have := (hr.dom i p hp).2; simpa [wobj] using this⟩, hr.top⟩
theorem post_off {r s : Ren} {h h' : AH} {w0 w : World} (hp : Post P r h w0 s h' w) {b : Nat} {d d' : Option (List Deferred)} (hb : w.heap[b]? = some (.deferred d)) (hlo : w0.heap.size ≤ b) : Post P r h w0 s h' (wobj w b (.deferred d')) :=
  ⟨off_ok hp.rel hb, hp.ext, hp.new, hp.nxt, by simpa [wobj] using hp.size, fun c hc hno => by
    have : (wobj w b (.deferred d')).heap[c]? = w.heap[c]? := by simp [wobj, Array.getElem?_setIfInBounds_ne (by omega : b ≠ c)]
    rw [this]; exact hp.frame c hc hno, hp.own, hp.keep, hp.os, hp.tape, hp.output⟩
theorem run_take {w : World} {b : Nat} (hb : w.heap[b]? = some (.deferred (some []))) : (Instr.takeDeferred b).run P w = .ok [] (wobj w b (.deferred none)) := by
  simp [Instr.takeDeferred, getObj, setObj, Sem.run, hb, wobj]
theorem Marks.off {w : World} {b : Nat} {d : Option (List Deferred)} : ∀ {ds : List Deferred}, Marks m w ds → (∀ d ∈ ds, d.target ≠ .collected b) → Marks m (wobj w b (.deferred d)) ds
  | _, .nil, _ => .nil
  | _, .cons (b := c) h0 h1 h2 t, hn => by
    have hne : b ≠ c := fun e => hn _ List.mem_cons_self (by rw [e])
    exact .cons h0 (by simpa [wobj, Array.getElem?_setIfInBounds_ne hne] using h1) h2 (Marks.off t fun d hd => hn d (List.mem_cons_of_mem _ hd))

/-- A function leaves. -/
theorem leaves_ok {fn : Func} {r s : Ren} {h h' : AH} {w0 : World} {t : Fr} {tmps : Array Value} {k : KV} (hfr : FrR s t tmps) (hf : (resB P fn.results.toList).f t h' (fun l => k (tupA l) h') = some x) : ∀ {ds : List Deferred} {w : World}, Post P r h w0 s h' w → Marks w0.heap.size w ds →
    LeavesInM Fence.wide 0 P fn tmps (fun e w' => ∃ v v' h' s, e = .returned v' ∧ k v h' = some x ∧ VR s v v' ∧ Post P r h w0 s h' w') ds .returning w
  | _, w, hp, .nil => by
    obtain ⟨l, vs, h1, h2, h3⟩ := res_ok hp.rel hfr _ _ hf
    refine ⟨_, ?_, tupA l, _, h', s, rfl, h1, tup_ok h3, hp⟩
    have e : results fn tmps = (do
        let vs ← fn.results.mapM (resSem tmps)
        pure (if h : vs.size = 1 then vs[0] else .tuple vs)) := by
      unfold results
      congr 1
    rw [e, Sem.run_bind, Array.mapM_eq_mapM_toList, Sem.run_map, h2]
    rfl
  | _, w, hp, .cons h0 h1 h2 t => by
    refine ⟨by simp, .inl ⟨_, _, rfl, run_take h1, leaves_ok hfr hf (post_off hp h1 h0) (t.off h2)⟩⟩

theorem st_ok (hcode : ∀ (n : Nat) (c : Code), CodeOk P n call c (codeB P n false c).f false) {f : Nat} {xs : List AV} {h : AH} {k : KV} {r : Ren} {args : Array Value} {w : World} (hf : (fnB P f).run call xs h k = some x) (hr : Rel P r h w) (hx : VRs r xs args.toList) :
    Coded P f ∧ CallsIn Fence.wide 0 P f args w (fun e w' => ∃ v v' h' s, e = .returned v' ∧ k v h' = some x ∧ VR s v v' ∧ Post P r h w s h' w') := by
  unfold fnB at hf
  split at hf
  · rename_i fn hfn
    split at hf
    · rename_i c hb
      split at hf
      · cases hf
      · rename_i hcond
        simp only [Bool.or_eq_false_iff, Bool.not_eq_false'] at hcond
        obtain ⟨⟨hname, hn⟩, hN⟩ := hcond
        have hn : fn.ntmps < 512 := by
          cases hlt : Nat.ble 512 fn.ntmps with
          | true => rw [hlt] at hn; cases hn
          | false => exact Nat.lt_of_not_le fun e => by rw [Nat.ble_eq_true_of_le e] at hlt; cases hlt
        have hN := Nat.le_of_ble_eq_true hN
        refine ⟨⟨fn, hfn, hname, by rw [hb]; rfl⟩, callsIn_of_wp_marks hfn hb trivial ?_⟩
        obtain ⟨h1, t, h2, h3⟩ := args_ok _ 0 frame0 xs (by omega) hf
        have hfr := start_ok (n := fn.ntmps) hx h1 hN h3
        have hsz : args.size ≤ fn.ntmps := by have := hx.length; simp at this; omega
        have hst : St P fn.ntmps w.heap.size r t h { tmps := args ++ Array.replicate (fn.ntmps - args.size) undef, defers := [] } w := ⟨hfr, by simp; omega, by omega, hr, .nil, Nat.le_refl _⟩
        refine wpIn_mono (F := fw none) (hcode fn.ntmps c none _ t h _ x r _ w (fun _ => rfl) h2 hst) fun e a' w' he => ?_
        obtain ⟨y, o, t', h', s, g1, rfl, g2, g3⟩ := he
        have hl : Nat.beq y 1 = false ∧ (resB P fn.results.toList).f t' h' (fun l => k (tupA l) h') = some x := by
          have g1 : ifB (Nat.beq y 1) none ((resB P fn.results.toList).f t' h' fun l => k (tupA l) h') = some x := g1
          cases hy : Nat.beq y 1 with
          | true => rw [hy] at g1; cases g1
          | false => rw [hy] at g1; exact ⟨rfl, g1⟩
        have hleave := leaves_ok (fn := fn) g2.fr hl.2 g3 g2.marks
        match y, hl.1 with
        | 0, _ => exact hleave
        | 1, e => cases e
        | _ + 2, _ => exact hleave
    · cases hf
  · cases hf

/-- Every call, at any depth. -/
theorem callK_ok (hm : P.follows .mixedOrders = true) : ∀ j : Nat, CallOk P (callK P j)
  | 0 => ⟨(fun f xs h k x r args w hf => by cases hf), (fun l xs h k x r p args w hf => by cases hf)⟩
  | j + 1 => by
    have ih := callK_ok hm j
    have hcode : ∀ (rd : Bool) (n : Nat) (c : Code), CodeOk P n (callK P j) c (codeB P n rd c).f rd := fun rd n c => code_ok ih (fun id b bb hb => blk_ok ih hm id b bb hb) (fun id ops => draw_ok hm ih id ops) (fun g ps asg body => rangeF_ok ih g ps asg body) c
    exact ⟨fun f xs h k x r args w hf hr hx => st_ok (hcode false) hf hr hx, fun l xs h k x r p args w hf hr hp hx => round_ok (hcode true) hf hr hp hx⟩
end
end Go.Proofs.YtlclpcobblojnaaGreatDoor
/- The machine for closed runs: a closed run that yields 'true'. -/
namespace Go.Proofs.YtlclpcobblojnaaGreatDoor
open Go.RowKit

noncomputable def yesK : KV := fun v _ => ifB (Nat.beq v.tag 1) (ifB (Nat.beq v.a 1) (some (.junk, ⟨.nil, 0⟩)) none) none
theorem rel_none {P : Program} (w : World) : Rel P (fun _ => none) ⟨.nil, 0⟩ w :=
  ⟨fun i o h => (by cases h), fun i o p h => (by cases h), fun i j o o' p q h => (by cases h), fun i p h => (by cases h), fun i o h => (by cases h)⟩
theorem closed_yes {P : Program} (hm : P.follows .mixedOrders = true) {j f : Nat} (hk : (callK P j).st f [] ⟨.nil, 0⟩ yesK = some (.junk, ⟨.nil, 0⟩)) (w : World) : Calls P f #[] w fun e w' => e = .returned (.bool true) ∧ Below w.heap.size w w' := by
  obtain ⟨-, h⟩ := (callK_ok hm j).st f [] _ _ _ _ #[] w hk (rel_none w) .nil
  refine callsIn_wide.1 (CallsIn.mono h fun e w' he => ?_)
  obtain ⟨v, v', h', s, rfl, h1, h2, h3⟩ := he
  have h1 : ifB (Nat.beq v.tag 1) (ifB (Nat.beq v.a 1) (some (AV.junk, (⟨.nil, 0⟩ : AH))) none) none = some (.junk, ⟨.nil, 0⟩) := h1
  obtain ⟨t1, h1⟩ := ifB_some h1
  obtain ⟨t2, -⟩ := ifB_some h1
  obtain ⟨b, rfl, h4⟩ := h2.inv1 (beq_of t1)
  have : b = true := by
    rw [beq_of t2] at h4
    cases b with
    | true => rfl
    | false => cases h4
  subst this
  exact ⟨rfl, h3.os, h3.tape, h3.output, h3.size, fun k hk => h3.frame k hk fun i o p hi => by cases hi⟩
end Go.Proofs.YtlclpcobblojnaaGreatDoor
/- What every law of the chapter checks first: a closed run, evaluated. -/
namespace Go.Proofs.YtlclpcobblojnaaGreatDoor
open Go.RowKit
set_option maxRecDepth 100000
theorem aw_run : (callK Tryz.prog 200).st 5 [] ⟨.nil, 0⟩ yesK = some (.junk, ⟨.nil, 0⟩) := by kernel_rfl
theorem awake_any (w : World) : Calls Tryz.prog 5 #[] w fun e w' => e = .returned (.bool true) ∧ Below w.heap.size w w' := closed_yes (by kernel_rfl) aw_run w
end Go.Proofs.YtlclpcobblojnaaGreatDoor
/- A region that draws its order, walked in an order of one's own: soft operations may be taken as soon as they are ready. No program is named here. -/
namespace Go.Proofs.YtlclpcobblojnaaGreatDoor

/-- The k-th, so that it comes out bare. -/
def nthO : List Oper → Nat → Option Oper
  | [], _ => none
  | o :: _, 0 => some o
  | _ :: l, k + 1 => nthO l k
theorem nthO_eq : ∀ (l : List Oper) (k : Nat), nthO l k = l.toArray[k]?
  | [], k => by simp [nthO]
  | o :: l, 0 => by simp [nthO]
  | o :: l, k + 1 => by
    have := nthO_eq l k
    simp [nthO, this]

section
variable {P : Program} {ls : List Oper} {ops : Array Oper} {Q : Exit → Act → World → Prop} {md : Region.Mode} {S : World → Prop} {ex : List Nat}

/-- The walk in the order given: each operation's place, and whether it is soft. -/
def wpHO (P : Program) (ls : List Oper) (ops : Array Oper) (Q : Exit → Act → World → Prop) (S : World → Prop) (ex : List Nat) : List (Nat × Bool) → Act → World → Prop
  | [], a, w => Q .normal a w
  | (k, true) :: r, a, w => ∃ o v, nthO ls k = some o ∧ YieldsIf P ops S o v a ∧ S w ∧ wpHO P ls ops Q S ex r (a.put o.dst v) w
  | (k, false) :: r, a, w => ∃ o, nthO ls k = some o ∧ Region.wanted o (yielded ops a.tmps) = true ∧ o.wp P a w (fun a' w' => (ex.contains k = false → S w') ∧ wpHO P ls ops Q S ex r a' w') Q

/-- May the operations come up so? -/
def heldOrd (md : Region.Mode) (ops : Array Oper) (ex : List Nat) : List (Nat × Bool) → Array Bool → Bool
  | [], listed => (Region.ready md ops listed).isEmpty
  | (k, true) :: r, listed => Region.free md ops listed k && (Region.ready md ops listed).contains k && ex.all (fun j => Region.waitsFor md ops j k) && heldOrd md ops ex r (listed.setIfInBounds k true)
  | (k, false) :: r, listed => (Region.ready md ops listed == [k]) && heldOrd md ops ex r (listed.setIfInBounds k true)

theorem wpAnyT_of_HO (he : ops = ls.toArray) (hs : Region.noSelect ops = true) (hQ : ∀ c a b w, Q (.panic c) a w → Q (.panic c) b w) : ∀ (l : List (Nat × Bool)) (listed : Array Bool) (a : Act) (w : World),
    heldOrd md ops ex l listed = true → wpHO P ls ops Q S ex l a w → wpAnyT P md ops Q S ex l.length listed a w := by
  intro l
  induction l with
  | nil =>
    intro listed a w hB h
    exact ⟨by simpa [heldOrd] using hB, by simpa [wpHO] using h⟩
  | cons x rest ih =>
    intro listed a w hB h
    obtain ⟨k, s⟩ := x
    cases s with
    | true =>
      simp only [heldOrd, Bool.and_eq_true] at hB
      obtain ⟨⟨⟨h1, h2⟩, h3⟩, h4⟩ := hB
      obtain ⟨o, v, hok, hy, hS, h5⟩ := h
      rw [nthO_eq, ← he] at hok
      refine wpAnyT_first hok (Region.noSelect_spec hs) (fun j hj => ?_) (fun c a w hq => hQ c _ _ w hq) rest.length listed a w (Region.free_spec hok h1) (by simpa using h2) hy hS (ih _ _ w h4 h5)
      exact List.all_eq_true.1 h3 j hj
    | false =>
      simp only [heldOrd, Bool.and_eq_true, beq_iff_eq] at hB
      obtain ⟨h1, h2⟩ := hB
      obtain ⟨o, hok, hg, h5⟩ := h
      rw [nthO_eq, ← he] at hok
      refine ⟨fun h0 => (by rw [h0] at h1; cases h1), fun i hi => ?_⟩
      rw [h1] at hi
      simp at hi
      subst hi
      unfold wpOp
      simp only [hok, hg, if_true]
      exact .inl (Oper.wp_mono (fun a' w' h6 => ⟨fun hn => h6.1 (by simpa using hn), ih _ a' w' h2 h6.2⟩) h5)

/-- The beginning. -/
theorem wp_region_HO {id : Nat} {a : Act} {w : World} {l : List Oper} (S : World → Prop) (ex : List Nat) (od : List (Nat × Bool)) (hm : P.follows .mixedOrders = true) (hs : Region.noSelect l.toArray = true)
    (hl : od.length = l.length) (hB : heldOrd .any l.toArray ex od (Array.replicate l.length false) = true) (h : wpHO P l l.toArray (NoPanic Q) S ex od a w.drew) : (Code.region id l.toArray true).wp P Q a w := by
  refine wp_region_noPanic (wp_region_any hm (wpAny_of_T (S := S) (ex := ex) _ _ _ _ ?_))
  have := wpAnyT_of_HO (P := P) (S := S) (md := .any) rfl hs (Q := NoPanic Q) (fun c a b w hq => (hq : False).elim) od (Array.replicate l.length false) a w.drew hB h
  rw [hl] at this
  simpa using this

theorem wpHO_nil {a : Act} {w : World} (h : Q .normal a w) : wpHO P ls ops (NoPanic Q) S ex [] a w := h

theorem wpHO_soft {k : Nat} {r : List (Nat × Bool)} {o : Oper} {a : Act} {w : World} {v : Value} (ho : nthO ls k = some o) (hg : Region.wanted o (yielded ops a.tmps) = true) (hS : S w) (hy : ∀ w', S w' → (execOp a.eval o).run P w' = .ok (.value v) w')
    (h : wpHO P ls ops Q S ex r (a.put o.dst v) w) : wpHO P ls ops Q S ex ((k, true) :: r) a w :=
  ⟨o, v, ho, .inl ⟨hg, hy⟩, hS, h⟩

/-- An operation whose guard says no. -/
theorem wpHO_off {k : Nat} {r : List (Nat × Bool)} {o : Oper} {a : Act} {w : World} (ho : nthO ls k = some o) (hg : Region.wanted o (yielded ops a.tmps) = false) (hS : S w)
    (h : wpHO P ls ops Q S ex r (a.put o.dst undef) w) : wpHO P ls ops Q S ex ((k, true) :: r) a w :=
  ⟨o, undef, ho, .inr ⟨hg, rfl⟩, hS, h⟩

/-- A hard operation by its law; a call. -/
theorem wpHO_law {k : Nat} {r : List (Nat × Bool)} {o : Oper} {a : Act} {w : World} (ho : nthO ls k = some o) (hg : Region.wanted o (yielded ops a.tmps) = true)
    (h : o.wp P a w (fun a' w' => (ex.contains k = false → S w') ∧ wpHO P ls ops Q S ex r a' w') Q) : wpHO P ls ops Q S ex ((k, false) :: r) a w := ⟨o, ho, hg, h⟩
theorem wpHO_call {k : Nat} {r : List (Nat × Bool)} {o : Oper} {a : Act} {w : World} {f : FuncId} {args : Array Value} (ho : nthO ls k = some o) (hg : Region.wanted o (yielded ops a.tmps) = true)
    (hr : (execOp a.eval o).run P w = .ok (.enter f args) w) (h : Calls P f args w fun e w' => ∃ v, e = .returned v ∧ (ex.contains k = false → S w') ∧ wpHO P ls ops Q S ex r (a.put o.dst v) w') : wpHO P ls ops Q S ex ((k, false) :: r) a w :=
  ⟨o, ho, hg, by unfold Oper.wp; rw [hr]; exact h.mono (fun e w' ⟨v, he, h1, h2⟩ => by subst he; exact ⟨h1, h2⟩)⟩
end
end Go.Proofs.YtlclpcobblojnaaGreatDoor
/- The law FlowBlocks, walked. -/
namespace Go.Proofs.YtlclpcobblojnaaGreatDoor
open Go.RowKit

set_option maxHeartbeats 16000000 in
set_option maxRecDepth 10000 in
theorem lawBlocks_any (ps : List Pt) (A : Option Addr) (n c : Nat) (w : World) (hf : FlowAt w w.heap.size A ps) (hl : ps.length = n) (hn : n ≤ maxLen) :
    Calls Tryz.prog 4 #[.agg #[.slice A n c]] w fun e w' => e = .returned (.bool true) ∧ Below w.heap.size w w' := by
  obtain ⟨W, hW⟩ : ∃ W, w.alloc (.cells #[.slice A n c] 24) = W := ⟨_, rfl⟩
  have hb : Below w.heap.size w W := by rw [← hW]; exact below_alloc _ _
  have hx : Blk W w.heap.size 24 #[.slice A n c] := by rw [← hW]; exact Blk.new w _ _
  have HA := Lib.hid (awake_any W)
  have HF := Lib.hid hf
  have HX := Lib.hid hx
  have HB := Lib.hid hb
  have x0 := hx.cell 0
  have lx := hx.lt
  have HSM := Lib.hid (fun (w' : World) (hb : Below w.heap.size w w') => Small_any ps A n c 30 w' ((hf.below hb (Nat.le_refl _)).mono hb.size) hl hn (by omega))
  have HSB : Hid (smallB ps 30 = true → (∀ p ∈ ps, p.next.length ≤ 8) ∧ n ≤ 30) := Lib.hid (fun h => by
    unfold smallB at h
    rw [Bool.and_eq_true, List.all_eq_true] at h
    exact ⟨fun p hp => of_decide_eq_true (h.1 p hp), by have := of_decide_eq_true h.2; omega⟩)
  have HL := Lib.hid hl
  clear hb hx hf hl
  go_enter Tryz.func4, Tryz.ntmps4
  go_wp2_with (rw [hW])
  clear hW
  refine HA.out.mono ?_
  rintro e w2 ⟨rfl, hb2⟩
  have x2 := (HX.out.below hb2 lx).cell 0
  have HB2 := Lib.hid (HB.out.trans (hb2.mono HB.out.size))
  have HSM2 : Hid (Calls Tryz.prog 6 #[.agg #[.slice A n c], .int .i64 30] w2 fun e w' => e = .returned (.bool (smallB ps 30)) ∧ Below w2.heap.size w2 w') := Lib.hid (HSM.out w2 HB2.out)
  have l2 : w.heap.size < w2.heap.size := Nat.lt_of_lt_of_le lx hb2.size
  have X2 := Lib.hid (HX.out.below hb2 lx)
  clear x0 hb2 HSM HX HA HB
  go_wp2_with fail
  refine HSM2.out.mono ?_
  rintro e w3 ⟨rfl, hb3⟩
  have HB3 := Lib.hid (HB2.out.trans (hb3.mono HB2.out.size))
  have X3 := Lib.hid (X2.out.below hb3 l2)
  have l3 : w.heap.size < w3.heap.size := Nat.lt_of_lt_of_le l2 hb3.size
  obtain ⟨sm, hsm⟩ : ∃ sm, smallB ps 30 = sm := ⟨_, rfl⟩
  rw [hsm]
  have HSMV := Lib.hid hsm
  clear x2 hb3 hsm HSM2 X2 HB2
  cases sm
  case false =>
    go_wp2_with fail
    go_ret
    exact ⟨rfl, HB3.out⟩
  obtain ⟨h8, hn30⟩ := HSB.out HSMV.out
  have hFL : ∀ w' : World, Below w.heap.size w w' → FlowAt w' w'.heap.size A ps := fun w' hb => (HF.out.below hb (Nat.le_refl _)).mono hb.size
  have hn100 : n ≤ 100 := by omega
  have H1 := Lib.hid (fun (w' : World) (hb : Below w.heap.size w w') => blocks_c ps A n c w' (hFL w' hb) HL.out hn100 h8)
  have H2 := Lib.hid (fun (w' : World) (hb : Below w.heap.size w w') => reachable_c ps A n c w' (hFL w' hb) HL.out hn100 h8)
  have H3 := Lib.hid (fun (w' : World) (hb : Below w.heap.size w w') => before_c ps A n c w' (hFL w' hb) HL.out hn100 h8)
  have HVD := Lib.hid (fun (w' : World) (hb : Below w.heap.size w w') => validR_any ps A n c w' (hFL w' hb) HL.out hn100 h8)
  have HMB := Lib.hid (fun w' : World => run_make_bools n (by omega) w')
  have hp3 := blocksM_len ps
  rw [HL.out] at hp3
  have HP3 := Lib.hid hp3
  have hkS : ∀ w' : World, Below w3.heap.size w3 w' → w'.cell? ⟨w.heap.size, 0, none⟩ = some (.slice A n c) := fun w' hb => (X3.out.below hb l3).cell 0
  have HKS := Lib.hid hkS
  have HC0 := Lib.hid ((Below.refl w3.heap.size w3).drew)
  have HBase := Lib.hid HB3.out.size
  have HOf : Hid (∀ w' : World, Below w3.heap.size w3 w' → Below w.heap.size w w') := Lib.hid (fun w' hb => HB3.out.trans (hb.mono HB3.out.size))
  clear hkS hp3 hFL hn100 h8 hn
  go_wp2_with fail
  have hS0 := HKS.out _ HC0.out
  refine wp_region_HO (fun W => W.cell? ⟨w.heap.size, 0, none⟩ = some (.slice A n c)) [] [(0, true), (2, true), (4, true), (1, false), (3, false), (5, false), (6, true), (7, true), (8, true)] (by kernel_rfl) (by kernel_rfl) rfl (by kernel_rfl) ?_
  first | (refine wpHO_off rfl (by rfl) hS0 ?_) | (refine wpHO_soft rfl (by rfl) hS0 (by intro w1 hs1; go_simp; rfl) ?_)
  simp only [Act.put, List.setIfInBounds_toArray, List.set_cons_zero, List.set_cons_succ]
  first | (refine wpHO_off rfl (by rfl) hS0 ?_) | (refine wpHO_soft rfl (by rfl) hS0 (by intro w1 hs1; go_simp; rfl) ?_)
  simp only [Act.put, List.setIfInBounds_toArray, List.set_cons_zero, List.set_cons_succ]
  first | (refine wpHO_off rfl (by rfl) hS0 ?_) | (refine wpHO_soft rfl (by rfl) hS0 (by intro w1 hs1; go_simp; rfl) ?_)
  simp only [Act.put, List.setIfInBounds_toArray, List.set_cons_zero, List.set_cons_succ]
  refine wpHO_call rfl (by rfl) (by go_simp) ((H1.out _ (HOf.out _ HC0.out)).mono ?_)
  rintro e w11 ⟨⟨v1, rfl, hv1⟩, hb11⟩
  have HC1 := Lib.hid (HC0.out.trans (hb11.mono HC0.out.size))
  have hS1 := HKS.out _ HC1.out
  have HV1 := Lib.hid hv1
  clear hv1
  clear hb11 hS0
  refine ⟨_, rfl, fun _ => hS1, ?_⟩
  simp only [Act.put, List.setIfInBounds_toArray, List.set_cons_zero, List.set_cons_succ]
  refine wpHO_call rfl (by rfl) (by go_simp) ((H2.out _ (HOf.out _ HC1.out)).mono ?_)
  rintro e w12 ⟨⟨v2, rfl, hv2⟩, hb12⟩
  have HC2 := Lib.hid (HC1.out.trans (hb12.mono HC1.out.size))
  have hS2 := HKS.out _ HC2.out
  replace HV1 := Lib.hid (HV1.out.below hb12)
  have HV2 := Lib.hid hv2
  clear hv2
  clear hb12 hS1
  refine ⟨_, rfl, fun _ => hS2, ?_⟩
  simp only [Act.put, List.setIfInBounds_toArray, List.set_cons_zero, List.set_cons_succ]
  refine wpHO_call rfl (by rfl) (by go_simp) ((H3.out _ (HOf.out _ HC2.out)).mono ?_)
  rintro e w13 ⟨⟨v3, rfl, hv3⟩, hb13⟩
  have HC3 := Lib.hid (HC2.out.trans (hb13.mono HC2.out.size))
  have hS3 := HKS.out _ HC3.out
  replace HV1 := Lib.hid (HV1.out.below hb13)
  replace HV2 := Lib.hid (HV2.out.below hb13)
  have HV3 := Lib.hid hv3
  clear hv3
  clear hb13 hS2
  refine ⟨_, rfl, fun _ => hS3, ?_⟩
  simp only [Act.put, List.setIfInBounds_toArray, List.set_cons_zero, List.set_cons_succ]
  first | (refine wpHO_off rfl (by rfl) hS3 ?_) | (refine wpHO_soft rfl (by rfl) hS3 (by intro w1 hs1; go_simp; rfl) ?_)
  simp only [Act.put, List.setIfInBounds_toArray, List.set_cons_zero, List.set_cons_succ]
  first | (refine wpHO_off rfl (by rfl) hS3 ?_) | (refine wpHO_soft rfl (by rfl) hS3 (by intro w1 hs1; go_simp; rfl) ?_)
  simp only [Act.put, List.setIfInBounds_toArray, List.set_cons_zero, List.set_cons_succ]
  first | (refine wpHO_off rfl (by rfl) hS3 ?_) | (refine wpHO_soft rfl (by rfl) hS3 (by intro w1 hs1; go_simp; rfl) ?_)
  simp only [Act.put, List.setIfInBounds_toArray, List.set_cons_zero, List.set_cons_succ]
  refine wpHO_nil ?_
  have X13 := Lib.hid (X3.out.below HC3.out l3)
  have x13 := X13.out.cell 0
  have l13 : w.heap.size < w13.heap.size := Nat.lt_of_lt_of_le l3 HC3.out.size
  have HB13 := Lib.hid (HOf.out _ HC3.out)
  have HVC := Lib.hid (HVD.out w13 HB13.out)
  have hvl : validB ps = true → reachV ps = reachM ps ∧ (beforeM ps = beforeUpto ps n) ∧ 2 ≤ n ∧ NextIn ps := fun h => ⟨by unfold reachV; rw [h]; rfl, by unfold beforeM; rw [h, HL.out]; rfl, by have := (valid_next h).2; rw [HL.out] at this; omega, (valid_next h).1⟩
  have hvn : validB ps = false → blocksM ps = [] ∧ reachV ps = [] ∧ beforeM ps = [] := fun h => ⟨by unfold blocksM; rw [h]; rfl, by unfold reachV; rw [h]; rfl, by unfold beforeM; rw [h]; rfl⟩
  have HVL := Lib.hid hvl
  have HVN := Lib.hid hvn
  obtain ⟨A1, c1, hA1, hr1⟩ := HV1.out
  obtain ⟨A2, c2, hA2, hr2⟩ := HV2.out
  obtain ⟨A3, c3, hA3, hr3⟩ := HV3.out
  have HR1 := Lib.hid hr1
  have HR2 := Lib.hid hr2
  have HR3 := Lib.hid hr3
  clear hS3 hr1 hr2 hr3 HV1 HV2 HV3 hvl hvn X3 HKS HC0 HC1 HC2 HC3 HB3 HBase HOf H1 H2 H3 HVD
  subst hA1 hA2 hA3
  go_wp2_with fail
  refine HVC.out.mono ?_
  rintro e w4 ⟨rfl, hb4⟩
  have X4 := Lib.hid (X13.out.below hb4 l13)
  have x4 := X4.out.cell 0
  have HB4 := Lib.hid (HB13.out.trans (hb4.mono HB13.out.size))
  replace HR1 := Lib.hid ((HR1.out.below hb4 (Nat.le_refl _)).mono hb4.size)
  replace HR2 := Lib.hid ((HR2.out.below hb4 (Nat.le_refl _)).mono hb4.size)
  replace HR3 := Lib.hid ((HR3.out.below hb4 (Nat.le_refl _)).mono hb4.size)
  have l4 : w.heap.size < w4.heap.size := Nat.lt_of_lt_of_le l13 hb4.size
  clear x13 hb4 HVC X13 HB13
  obtain ⟨V, hV⟩ : ∃ V, validB ps = V := ⟨_, rfl⟩
  rw [hV]
  have HVV := Lib.hid hV
  clear hV
  cases V
  case false =>
    obtain ⟨h1, h2, h3⟩ := HVN.out HVV.out
    rw [h1, h2, h3]
    clear h1 h2 h3
    simp only [List.length_nil]
    go_wp2_with fail
    go_ret
    exact ⟨rfl, HB4.out⟩
  obtain ⟨h1, h2, h2n, hnx⟩ := HVL.out HVV.out
  have hRl : (reachV ps).length = n := by rw [h1, reachM_len, HL.out]
  have hBl : (beforeM ps).length = n := by rw [h2, beforeUpto_len]
  have hLm := blocksM_L HVV.out
  rw [h1] at HR2
  rw [h2] at HR3
  rw [hLm] at HR1
  have hlen : (blocksM ps).length = (blkL ps).length := by rw [hLm, List.length_map]
  have hm30 : (blkL ps).length ≤ n := by rw [← hlen]; exact HP3.out.1
  have hq31 : ∀ l ∈ blkL ps, l.length ≤ n + 1 := fun l hl => by
    have := HP3.out.2 (natI l) (by rw [hLm]; exact List.mem_map_of_mem hl)
    rwa [List.length_map] at this
  have HQ31 := Lib.hid hq31
  obtain ⟨m, hm⟩ : ∃ m, (blkL ps).length = m := ⟨_, rfl⟩
  rw [hRl, hBl, hlen, hm]
  rw [hm] at hm30
  have HM := Lib.hid hm
  have HN2 := Lib.hid h2n
  have HNX := Lib.hid hnx
  obtain ⟨g, hg⟩ : ∃ g, w4.heap.size = g := ⟨_, rfl⟩
  have hmb := HMB.out w4
  obtain ⟨W5, hW5⟩ : ∃ W5, w4.alloc (.cells ((List.replicate n false).map Value.bool).toArray 4) = W5 := ⟨_, rfl⟩
  have hb5 : Below g w4 W5 := by rw [← hW5, ← hg]; exact below_alloc _ _
  have hbb : BoolsBlk W5 g (List.replicate n false) := by rw [← hW5, ← hg]; exact BoolsBlk.new w4 _
  rw [hW5, hg] at hmb
  rw [hg] at HR1 HR2 HR3 l4
  have h5s : g < W5.heap.size := hbb.lt
  have HBB : Hid (BoolsBlk W5 g (tab n (sn (blkL ps) 0 [] 0))) := Lib.hid (by
    rw [tab_congr (sn_zero (blkL ps)), tab_const]
    exact hbb)
  have X5 := Lib.hid (X4.out.below hb5 l4)
  have F5 := Lib.hid ((HF.out.below HB4.out (Nat.le_refl _)).below hb5 (Nat.le_of_lt l4))
  have R1 := Lib.hid (HR1.out.below hb5 (Nat.le_refl _))
  have R2 := Lib.hid (HR2.out.below hb5 (Nat.le_refl _))
  have R3 := Lib.hid (HR3.out.below hb5 (Nat.le_refl _))
  have HB5 := Lib.hid (HB4.out.trans (hb5.mono (Nat.le_of_lt l4)))
  clear h1 h2 h2n hnx hRl hBl hLm hlen hm hq31 HR1 HR2 HR3 hb5 hbb X4 HB4 HMB HVL HVN HP3 HF
  go_wp2_with (first | rw [hW5])
  clear hW5 hmb x4 hg
  go_loopg [61] m (fun gk s wr => ∃ k : Nat, k + gk = m ∧ s = .int .i64 k ∧ Hid (BoolsBlk wr g (tab n (sn (blkL ps) k [] 0))) ∧ Hid (Since (fun q => q = g) W5 wr))
  case atStart => exact ⟨0, by omega, rfl, HBB, Lib.hid (Since.refl _ _)⟩
  case round =>
    obtain ⟨k, hk, rfl, HO, HS⟩ := hrel
    have HK := Lib.hid hk
    have hk' : k ≤ m := by omega
    have hBr : Below g W5 wr := HS.out.toBelow (by omega) (by rintro q rfl; exact Nat.le_refl _)
    have HBr := Lib.hid hBr
    clear hk
    by_cases hltk : k < m
    case neg =>
      have hkm : m = k := by omega
      subst hkm
      have hall := sn_all HL.out HN2.out HNX.out
      rw [HM.out] at hall
      have hbs : BS wr (.slice (some ⟨g, 0, none⟩) n n) (reachM ps) := ⟨some ⟨g, 0, none⟩, n, by rw [reachM_len, HL.out], by rw [← hall]; exact HO.out.rowAt⟩
      have hbr : BS wr (.slice A2 n c2) (reachM ps) := ⟨A2, c2, by rw [reachM_len, HL.out], (R2.out.below hBr (Nat.le_refl _)).mono (by have := hBr.size; omega)⟩
      have HBC := Lib.hid (Bools_c hbs hbr (by rw [reachM_len, HL.out]; omega))
      clear hall hbs hbr hBr
      go_wp2_with fail
      refine HBC.out.mono ?_
      rintro e w9 ⟨rfl, hb9⟩
      have HB9 := Lib.hid hb9
      clear hb9
      go_wp2_with fail
      go_ret
      exact ⟨rfl, HB5.out.trans ((HBr.out.trans (HB9.out.mono (by have := HBr.out.size; omega))).mono (by omega))⟩
    have hkm : (k : Int) < (m : Int) := by omega
    have e1 : (blkL ps)[k]? = some ((blkL ps)[k]'(by rw [HM.out]; exact hltk)) := List.getElem?_eq_getElem _
    generalize (blkL ps)[k]'(by rw [HM.out]; exact hltk) = l at e1
    have e1n : ((blkL ps).map natI)[k]? = some (natI l) := by rw [List.getElem?_map, e1]; rfl
    obtain ⟨b1, o1, Ak, ck, hA1, hb1, hc1, hrow⟩ := R1.out k _ e1n
    subst hA1
    obtain ⟨q, hq⟩ : ∃ q, l.length = q := ⟨_, rfl⟩
    rw [List.length_map, hq] at hc1
    replace hc1 : wr.cell? ⟨b1, o1 + k, none⟩ = some (.slice Ak q ck) := (hBr.cell (p := ⟨b1, _, none⟩) hb1).trans hc1
    have hq31 : q ≤ 31 := by have := HQ31.out l (List.mem_of_getElem? e1); omega
    have HQ := Lib.hid hq
    have HE1 := Lib.hid e1
    have HRW := Lib.hid hrow
    have HO' : Hid (BoolsBlk wr g (tab n (sn (blkL ps) k l 0))) := Lib.hid (by rw [← tab_congr (sn_in (blkL ps) k l)]; exact HO.out)
    clear hBr e1 e1n hrow hq HO
    go_wp2_with fail
    clear hc1
    obtain ⟨go, rfl⟩ : ∃ go : Nat, go = gk := ⟨_, rfl⟩
    go_loopg [67] q (fun gk s wr => ∃ j : Nat, j + gk = q ∧ s = .int .i64 j ∧ Hid (BoolsBlk wr g (tab n (sn (blkL ps) k l j))) ∧ Hid (Since (fun q => q = g) W5 wr))
    case atStart => exact ⟨0, by omega, rfl, HO', HS⟩
    case round =>
      obtain ⟨j, hj, rfl, HOj, HSj⟩ := hrel
      have HJ := Lib.hid hj
      have hj' : j ≤ q := by omega
      clear hj
      by_cases hltj : j < q
      case neg =>
        go_wp2_with fail
        go_roundg (go - 1)
        case measure => have := HK.out; omega
        case rel =>
          refine ⟨k + 1, by have := HK.out; omega, by go_num, Lib.hid ?_, HSj⟩
          rw [← tab_congr (sn_out HE1.out (j := j) (by rw [HQ.out]; omega))]
          exact HOj.out
      have hBj : Below g W5 wr := HSj.out.toBelow (by omega) (by rintro q rfl; exact Nat.le_refl _)
      have HBj := Lib.hid hBj
      have hsj : g < wr.heap.size := by have := hBj.size; omega
      have e2 : l[j]? = some (l[j]'(by rw [HQ.out]; exact hltj)) := List.getElem?_eq_getElem _
      generalize l[j]'(by rw [HQ.out]; exact hltj) = y at e2
      have e2n : (natI l)[j]? = some (y : Int) := by rw [List.getElem?_map, e2]; rfl
      obtain ⟨b2, o2, hA2, hb2, hc2⟩ := HRW.out j _ e2n
      subst hA2
      have hcy : wr.cell? ⟨b2, o2 + j, none⟩ = some (.int .i64 (y : Int)) := (hBj.cell (p := ⟨b2, _, none⟩) hb2).trans (by simpa using hc2 0 _ rfl)
      obtain ⟨hyn, hry⟩ := blk_point HL.out HNX.out HE1.out e2
      obtain ⟨b3, o3, hA3, hb3, hc3⟩ := R2.out y _ hry
      subst hA3
      have hcr : wr.cell? ⟨b3, o3 + y, none⟩ = some (.bool true) := (hBj.cell (p := ⟨b3, _, none⟩) hb3).trans (by simpa using hc3 0 _ rfl)
      have hfr := sn_fresh HL.out HNX.out HE1.out e2
      have hcs := HOj.out.cell (tab_get (f := sn (blkL ps) k l j) hyn)
      rw [hfr] at hcs
      have hfs := HOj.out.frozen y
      have xr := (X5.out.below hBj l4).cell 0
      have hyi : (y : Int) < (n : Int) := by omega
      have hy0 : ¬ ((y : Int) < 0) := by omega
      have hy1 : ¬ ((y : Int) ≥ (n : Int)) := by omega
      have hjq : (j : Int) < (q : Int) := by omega
      have HE2 := Lib.hid e2
      obtain ⟨W8, hW8⟩ : ∃ W8, wr.setCell ⟨g, y, none⟩ (.bool true) = W8 := ⟨_, rfl⟩
      have HS8 : Hid (Since (fun q => q = g) W5 W8) := Lib.hid (by rw [← hW8]; exact HSj.out.setCell (.inl rfl) _)
      have HO8 : Hid (BoolsBlk W8 g (tab n (sn (blkL ps) k l (j + 1)))) := Lib.hid (by
        rw [← hW8, ← tab_set (fun b hb => sn_same (L := blkL ps) (k := k) e2 b hb), sn_put e2]
        exact HOj.out.set y true)
      clear hBj e2 e2n hc2 hc3 hry hfr
      rcases Nat.eq_zero_or_pos j with hj0 | hj0
      · subst hj0
        replace hcy : wr.cell? ⟨b2, o2, none⟩ = some (.int .i64 (y : Int)) := hcy
        go_wp2_with (first | rw [hW8])
        go_roundg (gk - 1)
        case measure => have := HJ.out; omega
        case rel => exact ⟨1, by have := HJ.out; omega, rfl, HO8, HS8⟩
      obtain ⟨i, rfl⟩ : ∃ i, j = i + 1 := ⟨j - 1, by omega⟩
      have hB8 : Below g W5 W8 := HS8.out.toBelow (by omega) (by rintro q rfl; exact Nat.le_refl _)
      have e3 : l[i]? = some (l[i]'(by rw [HQ.out]; omega)) := List.getElem?_eq_getElem _
      generalize l[i]'(by rw [HQ.out]; omega) = x at e3
      have e3n : (natI l)[i]? = some (x : Int) := by rw [List.getElem?_map, e3]; rfl
      obtain ⟨b2', o2', hA2', hb2', hc2'⟩ := HRW.out i _ e3n
      cases hA2'
      have hci : W8.cell? ⟨b2, o2 + i, none⟩ = some (.int .i64 (x : Int)) := (hB8.cell (p := ⟨b2, _, none⟩) hb2).trans (by simpa using hc2' 0 _ rfl)
      obtain ⟨hxn, hrx⟩ := blk_point HL.out HNX.out HE1.out e3
      obtain ⟨p, hp, hpn⟩ := blk_link HL.out HNX.out HE1.out e3 HE2.out
      obtain ⟨pk, pn, pl⟩ := p
      replace hpn : pl = [(y : Int)] := hpn
      obtain ⟨b4, o4, hA4, hb4, h1, h2, A5, c5, h3, h4, h5, h6⟩ := F5.out x _ hp
      subst hA4
      have hb4g : b4 < g := by omega
      replace h3 : W8.cell? ⟨b4, o4 + x * 3 + 2, none⟩ = some (.slice A5 1 c5) := (hB8.cell (p := ⟨b4, _, none⟩) hb4g).trans (by rw [h3]; simp [hpn])
      replace h6 : RowAt 1 intCells W5 w.heap.size A5 pl := h6
      obtain ⟨b5, o5, hA5, hb5, hc5⟩ := h6 0 (y : Int) (by rw [hpn]; rfl)
      subst hA5
      have hb5g : b5 < g := by omega
      have hc5' : W8.drew.cell? ⟨b5, o5, none⟩ = some (.int .i64 (y : Int)) := (hB8.cell (p := ⟨b5, _, none⟩) hb5g).trans (by simpa using hc5 0 _ rfl)
      have e6 : (beforeUpto ps n)[y]? = some (idxM (leadsTo (y : Int)) ps 0) := by
        unfold beforeUpto
        rw [List.getElem?_map, List.getElem?_range hyn]
        rfl
      obtain ⟨b6, o6, A7, c7, hA6, hb6, hc6, hrow7⟩ := R3.out y _ e6
      subst hA6
      have hlr := idxM_len (f := leadsTo (y : Int)) ps 0
      obtain ⟨r, hr⟩ : ∃ r, (idxM (leadsTo (y : Int)) ps 0).length = r := ⟨_, rfl⟩
      rw [hr] at hc6 hlr
      rw [HL.out] at hlr
      replace hc6 : W8.drew.cell? ⟨b6, o6 + y, none⟩ = some (.slice A7 r c7) := (hB8.cell (p := ⟨b6, _, none⟩) hb6).trans hc6
      have HB8 := Lib.hid hB8
      have HRW7 := Lib.hid hrow7
      have HR := Lib.hid hr
      have HE3 := Lib.hid e3
      have hS0 : W8.drew.cell? ⟨w.heap.size, 0, none⟩ = some (.slice (some ⟨b4, o4, none⟩) n c) ∧ W8.drew.cell? ⟨b2, o2 + i, none⟩ = some (.int .i64 (x : Int)) ∧ W8.drew.cell? ⟨b4, o4 + x * 3 + 2, none⟩ = some (.slice (some ⟨b5, o5, none⟩) 1 c5) :=
        ⟨(X5.out.below hB8 l4).cell 0, hci, h3⟩
      have HS0 := Lib.hid hS0
      have HC5 := Lib.hid hc5'
      have HC6 := Lib.hid hc6
      have hxi : (x : Int) < (n : Int) := by omega
      have hiw : IntKind.i64.wrap (i : Int) = (i : Int) := IntWalk.i64_in _ (by omega)
      have hiq : (i : Int) < (q : Int) := by omega
      have hi0 : ((i : Int) + 1 == 0) = false := by simp; omega
      clear hB8 e3 e3n hc2' hrx hp h1 h2 h4 h5 h3 h6 hc5 e6 hrow7 hr hS0 hci hc5' hc6 hb2'
      go_wp2_with (first | rw [hW8])
      clear hW8 hcy hcr hcs hfs xr
      have hS0 := HS0.out
      clear HS0
      refine wp_region_HG (fun W => W.cell? ⟨w.heap.size, 0, none⟩ = some (.slice (some ⟨b4, o4, none⟩) n c) ∧ W.cell? ⟨b2, o2 + i, none⟩ = some (.int .i64 (x : Int)) ∧ W.cell? ⟨b4, o4 + x * 3 + 2, none⟩ = some (.slice (some ⟨b5, o5, none⟩) 1 c5)) [] [true, true, true, true, true, true, true, true, true, true, true] (by kernel_rfl) (by kernel_rfl) rfl (by kernel_rfl) ?_
      first | (refine wpHG_off (by rfl) hS0 ?_) | (refine wpHG_soft (by rfl) hS0 (by intro w' hSw; obtain ⟨hs1, hs2, hs3⟩ := hSw; go_simp; rfl) ?_)
      simp only [Act.put, List.setIfInBounds_toArray, List.set_cons_zero, List.set_cons_succ]
      first | (refine wpHG_off (by rfl) hS0 ?_) | (refine wpHG_soft (by rfl) hS0 (by intro w' hSw; obtain ⟨hs1, hs2, hs3⟩ := hSw; go_simp; rfl) ?_)
      simp only [Act.put, List.setIfInBounds_toArray, List.set_cons_zero, List.set_cons_succ]
      first | (refine wpHG_off (by rfl) hS0 ?_) | (refine wpHG_soft (by rfl) hS0 (by intro w' hSw; obtain ⟨hs1, hs2, hs3⟩ := hSw; go_simp; rfl) ?_)
      simp only [Act.put, List.setIfInBounds_toArray, List.set_cons_zero, List.set_cons_succ]
      first | (refine wpHG_off (by rfl) hS0 ?_) | (refine wpHG_soft (by rfl) hS0 (by intro w' hSw; obtain ⟨hs1, hs2, hs3⟩ := hSw; go_simp; rfl) ?_)
      simp only [Act.put, List.setIfInBounds_toArray, List.set_cons_zero, List.set_cons_succ]
      first | (refine wpHG_off (by rfl) hS0 ?_) | (refine wpHG_soft (by rfl) hS0 (by intro w' hSw; obtain ⟨hs1, hs2, hs3⟩ := hSw; go_simp; rfl) ?_)
      simp only [Act.put, List.setIfInBounds_toArray, List.set_cons_zero, List.set_cons_succ]
      first | (refine wpHG_off (by rfl) hS0 ?_) | (refine wpHG_soft (by rfl) hS0 (by intro w' hSw; obtain ⟨hs1, hs2, hs3⟩ := hSw; go_simp; rfl) ?_)
      simp only [Act.put, List.setIfInBounds_toArray, List.set_cons_zero, List.set_cons_succ]
      first | (refine wpHG_off (by rfl) hS0 ?_) | (refine wpHG_soft (by rfl) hS0 (by intro w' hSw; obtain ⟨hs1, hs2, hs3⟩ := hSw; go_simp; rfl) ?_)
      simp only [Act.put, List.setIfInBounds_toArray, List.set_cons_zero, List.set_cons_succ]
      first | (refine wpHG_off (by rfl) hS0 ?_) | (refine wpHG_soft (by rfl) hS0 (by intro w' hSw; obtain ⟨hs1, hs2, hs3⟩ := hSw; go_simp; rfl) ?_)
      simp only [Act.put, List.setIfInBounds_toArray, List.set_cons_zero, List.set_cons_succ]
      first | (refine wpHG_off (by rfl) hS0 ?_) | (refine wpHG_soft (by rfl) hS0 (by intro w' hSw; obtain ⟨hs1, hs2, hs3⟩ := hSw; go_simp; rfl) ?_)
      simp only [Act.put, List.setIfInBounds_toArray, List.set_cons_zero, List.set_cons_succ]
      first | (refine wpHG_off (by rfl) hS0 ?_) | (refine wpHG_soft (by rfl) hS0 (by intro w' hSw; obtain ⟨hs1, hs2, hs3⟩ := hSw; go_simp; rfl) ?_)
      simp only [Act.put, List.setIfInBounds_toArray, List.set_cons_zero, List.set_cons_succ]
      first | (refine wpHG_off (by rfl) hS0 ?_) | (refine wpHG_soft (by rfl) hS0 (by intro w' hSw; obtain ⟨hs1, hs2, hs3⟩ := hSw; go_simp; rfl) ?_)
      simp only [Act.put, List.setIfInBounds_toArray, List.set_cons_zero, List.set_cons_succ]
      refine wpHG_nil ?_
      have ci := hS0.2.1
      have hc5 := HC5.out
      have hc6 := HC6.out
      clear hS0
      go_wp2_with fail
      clear hc5 hc6
      obtain ⟨W9, hW9⟩ : ∃ W9, W9 = W8.drew := ⟨_, rfl⟩
      rw [← hW9] at ci ⊢
      have HB9 : Hid (Below g W5 W9) := Lib.hid (by rw [hW9]; exact HB8.out.drew)
      have HO9 : Hid (BoolsBlk W9 g (tab n (sn (blkL ps) k l (i + 1 + 1)))) := Lib.hid (by rw [hW9]; exact HO8.out.drew)
      have HS9 : Hid (Since (fun q => q = g) W5 W9) := Lib.hid (by rw [hW9]; exact HS8.out.drew)
      clear hW9 HO8 HS8 HB8
      have HCI := Lib.hid ci
      clear ci
      obtain ⟨gj, rfl⟩ : ∃ gj : Nat, gj = gk := ⟨_, rfl⟩
      go_loopg [124] r (fun gk s wr => ∃ t : Nat, t + gk = r ∧ s = .int .i64 t ∧ wr = W9)
      case atStart => exact ⟨0, by omega, rfl, rfl⟩
      case round =>
        obtain ⟨t, ht, rfl, rfl⟩ := hrel
        have HT := Lib.hid ht
        have ht' : t ≤ r := by omega
        clear ht
        by_cases hltt : t < r
        case neg =>
          go_wp2_with fail
          go_roundg (gj - 1)
          case measure => have := HJ.out; omega
          case rel => exact ⟨i + 1 + 1, by have := HJ.out; omega, by go_num, HO9, HS9⟩
        have e7 : (idxM (leadsTo (y : Int)) ps 0)[t]? = some ((idxM (leadsTo (y : Int)) ps 0)[t]'(by rw [HR.out]; exact hltt)) := List.getElem?_eq_getElem _
        generalize (idxM (leadsTo (y : Int)) ps 0)[t]'(by rw [HR.out]; exact hltt) = z at e7
        obtain ⟨f, rfl, hfn, hfx⟩ := blk_before HL.out HNX.out HE1.out HE3.out HE2.out (List.mem_of_getElem? e7)
        obtain ⟨b7, o7, hA7, hb7, hc7⟩ := HRW7.out t _ e7
        subst hA7
        have hct : wr.cell? ⟨b7, o7 + t, none⟩ = some (.int .i64 (f : Int)) := (HB9.out.cell (p := ⟨b7, _, none⟩) hb7).trans (by simpa using hc7 0 _ rfl)
        have e8 : (reachM ps)[f]? = some ((reachM ps)[f]'(by rw [reachM_len, HL.out]; exact hfn)) := List.getElem?_eq_getElem _
        generalize (reachM ps)[f]'(by rw [reachM_len, HL.out]; exact hfn) = rf at e8
        obtain ⟨b8, o8, hA8, hb8, hc8⟩ := R2.out f _ e8
        cases hA8
        have hcf : wr.cell? ⟨b3, o3 + f, none⟩ = some (.bool rf) := (HB9.out.cell (p := ⟨b3, _, none⟩) hb3).trans (by simpa using hc8 0 _ rfl)
        have hfi : (f : Int) < (n : Int) := by omega
        have hti : (t : Int) < (r : Int) := by omega
        have hci := HCI.out
        cases rf
        case false =>
          clear e7 e8 hc7 hc8 hfx
          go_wp2_with fail
          go_roundg (gk - 1)
          case measure => have := HT.out; omega
          case rel => exact ⟨t + 1, by have := HT.out; omega, by go_num, rfl⟩
        have hfe := hfx e8
        subst hfe
        clear e7 e8 hc7 hc8 hfx
        go_wp2_with fail
        go_roundg (gk - 1)
        case measure => have := HT.out; omega
        case rel => exact ⟨t + 1, by have := HT.out; omega, by go_num, rfl⟩
end Go.Proofs.YtlclpcobblojnaaGreatDoor
/- The row of a law: whatever the input the call returns true, and what was there is as it was. -/
namespace Go.Proofs.YtlclpcobblojnaaGreatDoor
open Go.ChangeShapes Go.WideShapes Go.ChangeAt Go.RowKit

theorem Tryz.own : ownKnob Tryz.prog.godebug = none := by kernel_rfl
theorem Tryz.laidOut : laidOutB Tryz.prog = true := by kernel_rfl

section
variable {H : Type} {enc : TypeId × Value → H} {P : Program}

theorem trodAll_stays (hl : laidOutB P = true) {W W' : World} (hb : Below W.heap.size W W') (sp : Nat → Bool) : ∀ {ts : List TypeId} {vs : List Value} {ds : List (DataW H)} {ps : List MemPlace},
    ts.all (fun t => P.readableRec t && decide (t < P.types.size)) = true → DataW.TrodAll enc P W 0 (fun _ => true) true ts vs ds ps → (∀ x ∈ ps, x.block < W.heap.size) → (∀ x ∈ ps, sp x.block = true) →
    DataW.TrodAll enc P W' 0 sp true ts vs ds ps := by
  intro ts
  induction ts with
  | nil =>
    intro vs ds ps _ h _ _
    cases vs <;> cases ds <;> simp [DataW.TrodAll] at h ⊢
    exact h
  | cons t ts ih =>
    intro vs ds ps hr h hlt hsp
    obtain ⟨v, vs', d, ds', p, q, rfl, rfl, rfl, hd, hrest⟩ := trodAll_cons h
    rw [List.all_cons, Bool.and_eq_true, Bool.and_eq_true] at hr
    refine ⟨p, q, ?_, ih hr.2 hrest (fun x hx => hlt x (by simp [hx])) (fun x hx => hsp x (by simp [hx])), rfl⟩
    exact WideElems.Trod_stays hl hr.1.1 (of_decide_eq_true hr.1.2) hd (fun x hx => hb.same (hlt x (by simp [hx]))) (fun x hx => hsp x (by simp [hx]))

/-- The post of a law without variables, where nothing that was there has turned. -/
theorem law_post (hl : laidOutB P = true) {f : Func} {s : ChangeSpec} {apart fresh handsOn again : Bool} {W W' : World} {args : Array Value} {ds gs : List (DataW H)} {before : List MemPlace} {tb : TypeId}
    (hW : DataW.Whole enc P f.params.toList s.vars apart W args.toList ds gs before) (hv : s.vars = [])
    (hread : f.params.toList.all (fun t => P.readableRec t && decide (t < P.types.size)) = true)
    (hfn : s.fn H (ds ++ gs) = { results := [.lit (.bool true)], args := ds }) (hr : f.resultTypes = #[tb]) (htb : P.underlying tb = some .bool) (hb : Below W.heap.size W W') :
    s.post enc P f apart fresh handsOn again W args (.bool true) W' := by
  have hlt : ∀ p ∈ before, p.block < W.heap.size := fun p hp => hW.lt p hp
  have hW0 := hW
  obtain ⟨p, q, hA, hV, hpq, hz, hn⟩ := hW
  rw [hv] at hV
  obtain ⟨hgs, hq⟩ := trodVars_none hV
  subst hq
  rw [List.append_nil] at hpq
  subst hpq
  have hres : ∀ (b : Nat) (sp : Nat → Bool) (hd : Bool), DataW.TrodAll enc P W' b sp hd f.resultTypes.toList ((Value.bool true).resultList f.resultTypes.size) (s.fn H (ds ++ gs)).results [] := fun b sp hd => by
    rw [hfn, hr]
    exact trodAll_mk1 (shut_bool htb true)
  have hargs : ∀ sp : Nat → Bool, (∀ x ∈ before, sp x.block = true) → DataW.TrodAll enc P W' 0 sp true f.params.toList args.toList (s.fn H (ds ++ gs)).args before := fun sp hsp => by
    rw [hfn]
    exact trodAll_stays hl hb sp hread hA hlt hsp
  have hvars : ∀ sp : Nat → Bool, DataW.TrodVars enc P W' sp s.vars (s.fn H (ds ++ gs)).vars [] := fun sp => by
    rw [hfn, hv]
    rfl
  have hold : ∀ x ∈ before, (fun b => decide (b < W.heap.size)) x.block = true := fun x hx => by simpa using hlt x hx
  refine ⟨ds, gs, before, [], before, [], hW0, hres _ _ _, hargs _ hold, hvars _, World.keptBut_mono (fun x hx => ⟨hx, Or.inr (by simpa using hx)⟩) (hb.frame (· ∈ before)), fun _ => ?_⟩
  refine ⟨ok_one hr rfl (okWide_bool_mk htb true), _, _, ([] ++ before) ++ [], ⟨[] ++ before, [], trodAll_append (hargs _ (fun _ _ => rfl)) (hres _ _ _), hvars _, rfl, ?_, ?_⟩, ?_⟩
  · intro b off hp
    have hin : MemPlace.cell b off ∈ before := by simpa using hp
    rw [hb.frozen (hlt _ hin)]
    exact hz b off hin
  · intro ha
    simpa using hn ha
  · intro x hx _
    simpa using hx
end

end Go.Proofs.YtlclpcobblojnaaGreatDoor
/- An argument that is a flow, opened. -/
namespace Go.Proofs.YtlclpcobblojnaaGreatDoor
open Go.ChangeShapes Go.WideShapes Go.ChangeAt Go.RowKit Go.Deep

theorem list3 {α : Type} {l : List α} (h : l.length = 3) : ∃ a b c, l = [a, b, c] := by
  match l, h with
  | [a, b, c], _ => exact ⟨a, b, c, rfl⟩
theorem array1 {α : Type} {l : Array α} (h : l.size = 1) : ∃ a, l = #[a] := by
  obtain ⟨l⟩ := l
  match l, h with
  | [a], _ => exact ⟨a, rfl⟩

section
variable {H : Type} {enc : TypeId × Value → H} {w : World} {base : Nat}

theorem Tryz.cellsPt : Tryz.prog.cellsOf 38 = 3 := by kernel_rfl
theorem Tryz.cellsFl : Tryz.prog.cellsOf 24 = 1 := by kernel_rfl
theorem Tryz.cellsInt : Tryz.prog.cellsOf 3 = 1 := by kernel_rfl
theorem Tryz.cellsIs : Tryz.prog.cellsOf 28 = 1 := by kernel_rfl
theorem Tryz.cellsPs : Tryz.prog.cellsOf 22 = 1 := by kernel_rfl

theorem choose_list {α : Type} {p : Nat → α → Prop} : ∀ m : Nat, (∀ i, i < m → ∃ x, p i x) → ∃ l : List α, l.length = m ∧ ∀ i x, l[i]? = some x → p i x := by
  intro m
  induction m with
  | zero => intro _; exact ⟨[], rfl, fun i x h => by simp at h⟩
  | succ m ih =>
    intro h
    obtain ⟨l, hl, hp⟩ := ih (fun i hi => h i (by omega))
    obtain ⟨x, hx⟩ := h m (by omega)
    refine ⟨l ++ [x], by simp [hl], fun i y hy => ?_⟩
    by_cases hi : i < l.length
    · rw [List.getElem?_append_left hi] at hy
      exact hp i y hy
    · rw [List.getElem?_append_right (by omega)] at hy
      have hi0 : i - l.length = 0 := by
        rcases Nat.eq_zero_or_pos (i - l.length) with h0 | h0
        · exact h0
        · rw [List.getElem?_eq_none (by simp; omega)] at hy
          cases hy
      rw [hi0] at hy
      simp at hy
      subst hy
      have : i = m := by omega
      subst this
      exact hx

/-- A slice of ints that came in. -/
theorem open_is {v : Value} {fuel : Nat} {x : DataW H × List MemPlace} (hf : DataW.trod enc Tryz.prog w base (fun _ => true) true fuel 28 [v] = some x) :
    ∃ (A : Option Addr) (c : Nat) (l : List Int), v = .slice A l.length c ∧ l.length ≤ c ∧ c ≤ maxLen ∧ RowAt 1 intCells w w.heap.size A l := by
  rcases open_slice Tryz.underlying28 hf with ⟨hcs, _⟩ | ⟨a, len', cap', m, n, D, Pl, hcs, hb, hl, hm, hmm, hx, hi⟩
  · simp at hcs
    subst hcs
    exact ⟨none, 0, [], rfl, Nat.le_refl _, by simp [maxLen], fun k c hk => by simp at hk⟩
  · simp at hcs
    subst hcs
    simp only [if_true] at hmm
    subst hmm
    rw [Tryz.cellsInt] at hi hx
    have hel : ∀ i, i < len' → ∃ c : Int, w.cell? (a.add i) = some (.int .i64 c) := fun i hil => by
      obtain ⟨cs', hc, ht⟩ := hi i (by omega)
      obtain ⟨c, rfl, -, -⟩ := DataW.trod_int Tryz.underlying3 ht
      refine ⟨c, ?_⟩
      have := (World.cells?_some hc).2.2 0 (by omega)
      rw [Go.Deep.add_add] at this
      simpa using this
    obtain ⟨l, hll, hlp⟩ := choose_list len' hel
    subst hll
    refine ⟨some a, m, l, rfl, hl, hm, fun k c hk => ?_⟩
    have hc := hlp k c hk
    obtain ⟨b, off, spot⟩ := a
    have hkl : k < l.length := (List.getElem?_eq_some_iff.1 hk).1
    have h0 := hlp 0 (l[0]'(by omega)) (List.getElem?_eq_getElem (by omega))
    have hspot : spot = none := by simpa [Addr.add] using World.cell?_spot h0
    subst hspot
    rw [Addr.add_lit] at hc
    have hbl : b < w.heap.size := by
      rcases Nat.lt_or_ge b w.heap.size with h1 | h1
      · exact h1
      · simp [World.cell?, Array.getElem?_eq_none h1] at hc
    refine ⟨b, off, rfl, hbl, fun j u hj => ?_⟩
    cases j with
    | zero =>
      simp [intCells] at hj
      subst hj
      simpa using hc
    | succ j => simp [intCells] at hj

/-- A point that came in. -/
theorem open_pt {fuel : Nat} {cs : List Value} {x : DataW H × List MemPlace} (h : DataW.trod enc Tryz.prog w base (fun _ => true) true fuel 38 cs = some x) :
    ∃ (p : Pt) (A : Option Addr) (c : Nat), cs = [.int .i64 p.kind, .int .i64 p.node, .slice A p.next.length c] ∧ p.next.length ≤ c ∧ c ≤ maxLen ∧ RowAt 1 intCells w w.heap.size A p.next := by
  obtain ⟨xs, n, -, -, hl, hxl, hf⟩ := DataW.trod_struct Tryz.underlying38 h
  rw [Tryz.cellsPt] at hl
  obtain ⟨c0, c1, c2, rfl⟩ := list3 hl
  have some_of : ∀ j, j < 3 → ∃ y, xs[j]? = some y := fun j hj => ⟨_, List.getElem?_eq_getElem (by rw [hxl]; exact hj)⟩
  have g0 := hf 0 _ rfl
  have g1 := hf 1 _ rfl
  have g2 := hf 2 _ rfl
  obtain ⟨y0, e0⟩ := some_of 0 (by omega)
  obtain ⟨y1, e1⟩ := some_of 1 (by omega)
  obtain ⟨y2, e2⟩ := some_of 2 (by omega)
  rw [e0] at g0
  rw [e1] at g1
  rw [e2] at g2
  simp [Tryz.cellsInt, Tryz.cellsIs] at g0 g1 g2
  obtain ⟨a0, k0, -, -⟩ := DataW.trod_int Tryz.underlying3 g0
  obtain ⟨a1, k1, -, -⟩ := DataW.trod_int Tryz.underlying3 g1
  obtain ⟨A, c, l, k2, h1, h2, h3⟩ := open_is g2
  simp only [List.cons.injEq, and_true] at k0 k1
  subst k0 k1 k2
  exact ⟨⟨a0, a1, l⟩, A, c, rfl, h1, h2, h3⟩

/-- A slice of points that came in. -/
theorem open_pts {v : Value} {fuel : Nat} {x : DataW H × List MemPlace} (hf : DataW.trod enc Tryz.prog w base (fun _ => true) true fuel 22 [v] = some x) :
    ∃ (A : Option Addr) (n c : Nat) (ps : List Pt), v = .slice A n c ∧ ps.length = n ∧ n ≤ maxLen ∧ FlowAt w w.heap.size A ps := by
  rcases open_slice Tryz.underlying22 hf with ⟨hcs, _⟩ | ⟨a, len', cap', m, n, D, Pl, hcs, hb, hl, hm, hmm, hx, hi⟩
  · simp at hcs
    subst hcs
    exact ⟨none, 0, 0, [], rfl, rfl, by simp [maxLen], fun k c hk => by simp at hk⟩
  · simp at hcs
    subst hcs
    simp only [if_true] at hmm
    subst hmm
    rw [Tryz.cellsPt] at hi hx
    have hel : ∀ i, i < len' → ∃ p : Pt, w.cell? (a.add (i * 3)) = some (.int .i64 p.kind) ∧ w.cell? (a.add (i * 3 + 1)) = some (.int .i64 p.node) ∧ ∃ A c, w.cell? (a.add (i * 3 + 2)) = some (.slice A p.next.length c) ∧ p.next.length ≤ c ∧ c ≤ maxLen ∧ RowAt 1 intCells w w.heap.size A p.next := fun i hil => by
      obtain ⟨cs', hc, ht⟩ := hi i (by omega)
      obtain ⟨p, A, c, rfl, h1, h2, h3⟩ := open_pt ht
      have hg := (World.cells?_some hc).2.2
      have g0 := hg 0 (by omega)
      have g1 := hg 1 (by omega)
      have g2 := hg 2 (by omega)
      rw [Go.Deep.add_add] at g0 g1 g2
      exact ⟨p, g0, g1, A, c, g2, h1, h2, h3⟩
    obtain ⟨l, hll, hlp⟩ := choose_list len' hel
    subst hll
    refine ⟨some a, l.length, m, l, rfl, rfl, by omega, fun k p hk => ?_⟩
    obtain ⟨h1, h2, A, c, h3, h4, h5, h6⟩ := hlp k p hk
    obtain ⟨b, off, spot⟩ := a
    have hspot : spot = none := by
      have hkl : k < l.length := (List.getElem?_eq_some_iff.1 hk).1
      obtain ⟨h0, -⟩ := hlp 0 (l[0]'(by omega)) (List.getElem?_eq_getElem (by omega))
      simpa [Addr.add] using World.cell?_spot h0
    subst hspot
    rw [Addr.add_lit] at h1 h2 h3
    have hbl : b < w.heap.size := by
      rcases Nat.lt_or_ge b w.heap.size with h9 | h9
      · exact h9
      · simp [World.cell?, Array.getElem?_eq_none h9] at h1
    refine ⟨b, off, rfl, hbl, h1, ?_, A, c, ?_, h4, h5, h6⟩
    · rw [Nat.add_assoc]; exact h2
    · rw [Nat.add_assoc]; exact h3

set_option maxRecDepth 100000 in
/-- A flow that came in. -/
theorem open_flow {r : Reach} {b0 : Nat} {v : Value} {d : DataW H} {p : List MemPlace} (hv : Value.okWide Tryz.prog w r b0 24 v) (h : DataW.Trod enc Tryz.prog w base (fun _ => true) true 24 v d p) :
    ∃ (A : Option Addr) (n c : Nat) (ps : List Pt), v = .agg #[.slice A n c] ∧ ps.length = n ∧ n ≤ maxLen ∧ FlowAt w w.heap.size A ps := by
  obtain ⟨cs, rfl, hsz⟩ := okWide_struct Tryz.underlying24 hv
  replace hsz := hsz.trans Tryz.cellsFl
  obtain ⟨c0, rfl⟩ := array1 hsz
  obtain ⟨fuel, hf⟩ := h
  obtain ⟨xs, n, -, -, -, hxl, hg⟩ := DataW.trod_struct Tryz.underlying24 hf
  have g0 := hg 0 _ rfl
  obtain ⟨y0, e0⟩ : ∃ y, xs[0]? = some y := ⟨_, List.getElem?_eq_getElem (by rw [hxl]; simp)⟩
  rw [e0] at g0
  simp [Tryz.cellsPs, Value.cells] at g0
  obtain ⟨A, n, c, ps, k, h1, h2, h3⟩ := open_pts g0
  exact ⟨A, n, c, ps, by rw [k], h1, h2, h3⟩
end
end Go.Proofs.YtlclpcobblojnaaGreatDoor
/- FlowBlocks holds: for every flow the law returns true, and its argument reads as before; the card. -/
namespace Go.Proofs.YtlclpcobblojnaaGreatDoor
open Go.ChangeShapes Go.WideShapes Go.ChangeAt Go.RowKit Go.Lib

set_option maxRecDepth 100000 in
theorem blocksL_lifted (os : Os) (started : os.Started) (H : Type) (enc : TypeId × Value → H) :
    ReturnsInHanded {} Tryz.checked os 4 .any (fun w args => (Rows.flowBlocksSpec.pre enc Tryz.prog Tryz.f4 [] false w args ∧ laidMetH Tryz.prog Rows.flowBlocksRow.laid w) ∧ sizedMet enc Tryz.prog Tryz.f4 (OpenSpec.ofChange Rows.flowBlocksSpec) false w args)
      (Rows.flowBlocksSpec.post enc Tryz.prog Tryz.f4 false true false false) := by
  refine returnsInHanded_of_change_and (C := Tryz.checked) (X := fun w _ => laidMetH Tryz.prog Rows.flowBlocksRow.laid w) (fun _ _ _ hh h => h.of_heap hh) Tryz.own started (by kernel_rfl) Tryz.func4
    (ChangeSpec.witness_shaped (enc := enc) (C := Tryz.checked) (os := os) (X := fun w _ => laidMetH Tryz.prog Rows.flowBlocksRow.laid w) false (World.laidAll Tryz.prog os Rows.flowBlocksRow.laid) #[.agg #[.slice none 0 0]] 8 (World.laidAll_os _ _ _)
      (World.shaped_of_ZipB (by kernel_rfl) (by kernel_rfl)) (by kernel_rfl) (by kernel_rfl) (by kernel_rfl)
      (by rw [MakeChecks.laidMetH_plain _ _ _ (by kernel_rfl)]; exact laidMet_laidAll _ (by kernel_rfl) (by kernel_rfl))) ?_
  intro W base args ds gs before hval0 hW _ _ _ _
  have hval : ∀ (j : Nat) t v, Tryz.f4.params[j]? = some t → args[j]? = some v → Value.okWide Tryz.prog W .any base t v := hval0
  have hW' := hW
  obtain ⟨p, q, hA0, hV, rfl, hfz, hnd⟩ := hW
  have hA : DataW.TrodAll enc Tryz.prog W 0 (fun _ => true) true Tryz.f4.params.toList args.toList ds p := hA0
  rw [Tryz.params4] at hA hval
  obtain ⟨v0, d0, rfl, rfl, h0⟩ := trodAll_one hA
  obtain ⟨rfl, rfl⟩ := trodVars_none hV
  obtain ⟨A, n, c, ps, rfl, hl, hn, hf⟩ := open_flow (hval 0 24 v0 rfl rfl) h0
  refine (lawBlocks_any ps A n c W hf hl hn).mono fun e W' ⟨he, hb⟩ => ?_
  subst he
  exact ⟨_, rfl, law_post Tryz.laidOut hW' rfl (by kernel_rfl) rfl (by kernel_rfl) Tryz.underlying4 hb⟩

theorem blocksL_said : Rows.FlowBlocksSaid :=
  OpenClaim.holds_of_wide 4 Tryz.f4 rfl rfl rfl rfl rfl rfl rfl ⟨rfl, rfl, rfl, rfl, rfl⟩ rfl rfl rfl rfl rfl (by kernel_rfl) Tryz.func4 (by kernel_rfl)
    (of_decide_eq_true (by kernel_rfl)) (by unfold Func.isWrapper; first | (rw [if_pos (by decide +kernel)]; kernel_rfl) | (rw [if_neg (by decide +kernel)]; exact ⟨rfl, rfl⟩))
    (fun os started H enc _ => blocksL_lifted os started H enc)

theorem flowBlocks_holds : Rows.FlowBlocksCardSaid :=
  Claim7.holds_tied_plain_at .later [] [.data, .pinned] true (true, "cee0f9252bc8f9592c24c5a81717a0441af9a0291954826b7587a8ab66f4c668") false
    blocksL_said (fun _ h => by cases h) (by kernel_rfl) (fun _ h => by cases h) flowBlocks_row_tie rfl ⟨rfl, rfl⟩ (by kernel_rfl) rfl
    (fun f fn hf hfn => by
      obtain rfl : f = 4 := Option.some.inj ((show Tryz.prog.funcNamed "assessor/assessorlaw17.FlowBlocks" = some 4 by kernel_rfl).symm.trans hf) |>.symm
      obtain rfl : fn = Tryz.f4 := (Option.some.inj (Tryz.func4.symm.trans hfn)).symm
      exact ⟨by kernel_rfl, fun j t ht => by
        rw [Tryz.params4] at ht
        have hm : t ∈ [24] := by simpa using Array.mem_of_getElem? ht
        have hall : ([24].all fun u => !Tryz.prog.wantsStandIn u) = true := by kernel_rfl
        exact (show Tryz.prog.wantsStandIn t = false by simpa using List.all_eq_true.1 hall t hm)⟩)
    (by kernel_rfl)
end Go.Proofs.YtlclpcobblojnaaGreatDoor
