/- TemplatesUndoes: an edit, and then the edit that undoes it, gives the tree. Part 7 of 14. -/
import Derived.Test.YtfkdkbekmimhoaaGreatDoorUnd06
import Derived.Test.YtfkdkbekmimhoaaGreatDoorProg
import Derived.WalkKit
import Derived.WalkSpells
import Derived.WalkLawsBesides
import Derived.Deep.QuietTactic
import Derived.BigQuiet
import Derived.Lib.Hide
import Derived.Deep.AppendSrc
import Derived.Deep.AppendLies
import Derived.Deep.Draws
import Derived.Deep.Upon
import Derived.Deep.LoopGhost
import Derived.Deep.RegionHeld3
import Derived.Deep.RegionLaw
import Derived.Deep.DeepCutAuto
import Derived.Deep.DeepFit
import Derived.BigRegion
import Derived.StillTailTactics
import Derived.Maps.Own
import GoSem.Core.Value
import Derived.StillTail
import Derived.IntWalk
/- The machine for closed runs: the hooks' soundness, out of the functions' contracts. -/

namespace Go.Proofs.YtfkdkbekmimhoaaGreatDoor
open Go.RowKit

section
variable {P : Program} {f : Nat}

theorem args2 {r : Ren} {xs : List AV} {args : Array Value} {a b : AV} (hx : VRs r xs args.toList) (hl : xs.length = 2) (ha : xs[0]? = some a) (hb : xs[1]? = some b) : ∃ u v, args = #[u, v] ∧ VR r a u ∧ VR r b v := by
  obtain ⟨u, h1, h2⟩ := hx.get ha
  obtain ⟨v, h3, h4⟩ := hx.get hb
  have hn := hx.length
  rw [hl] at hn
  obtain ⟨args⟩ := args
  refine ⟨u, v, ?_, h2, h4⟩
  match args, hn, h1, h3 with
  | [p, q], _, h1, h3 =>
    simp at h1 h3
    rw [h1, h3]
  | [], hn, _, _ => simp at hn
  | [_], hn, _, _ => simp at hn
  | _ :: _ :: _ :: _, hn, _, _ => simp at hn

theorem cntL_eq (c : UInt8) : ∀ s : List UInt8, cntL c.toNat s = s.count c
  | [] => rfl
  | a :: s => by
    have ih := cntL_eq c s
    have e : cntL c.toNat (a :: s) = ifB (Nat.beq a.toNat c.toNat) (Nat.succ (cntL c.toNat s)) (cntL c.toNat s) := rfl
    rw [e, ih, List.count_cons]
    by_cases h : a = c
    · subst h
      have : Nat.beq a.toNat a.toNat = true := Nat.beq_refl _
      rw [this]
      simp [ifB]
    · have : Nat.beq a.toNat c.toNat = false := by
        cases hb : Nat.beq a.toNat c.toNat with
        | false => rfl
        | true => exact absurd (UInt8.toNat_inj.1 (Nat.eq_of_beq_eq_true hb)) h
      rw [this]
      simp [ifB, h]

theorem ex_count (hc : Coded P f) (h : ∀ (s : ByteArray) (c : UInt8) (w : World), Calls P f #[.string s, .string ⟨#[c]⟩] w fun e w' => e = .returned (.int .i64 ((s.data.toList.count c : Nat) : Int)) ∧ w' = w) : ExOk P f countX := by
  refine ex_plain hc fun xs h1 k x r args w hf hr hx => ?_
  obtain ⟨hl, hf⟩ := ifB_some hf
  obtain ⟨a, ha, hf⟩ := nthK_some hf
  obtain ⟨b, hb, hf⟩ := nthK_some hf
  obtain ⟨t1, hf⟩ := ifB_some hf
  obtain ⟨t2, hf⟩ := ifB_some hf
  obtain ⟨t3, hf⟩ := ifB_some hf
  obtain ⟨-, hf⟩ := ifB_some hf
  obtain ⟨c, hc1, hf⟩ := snthK_some hf
  obtain ⟨u, v, rfl, h2, h3⟩ := args2 hx (beq_of hl) ha hb
  obtain ⟨s, rfl, hs⟩ := h2.inv2 (beq_of t1)
  obtain ⟨t, rfl, ht⟩ := h3.inv2 (beq_of t2)
  have hb1 : b.s = [c] := by
    have h9 : b.s.length = 1 := beq_of t3
    match hbs : b.s, h9 with
    | [q], _ =>
      rw [hbs] at hc1
      simp at hc1
      rw [hc1]
  have ht2 : t = ⟨#[c]⟩ := by
    rw [hb1] at ht
    obtain ⟨t⟩ := t
    simp at ht
    have : t = #[c] := by
      apply Array.toList_inj.1
      rw [← ht]
    rw [this]
  subst ht2
  refine ⟨_, _, hf, .int .i64 _, ?_⟩
  rw [cntL_eq, hs]
  exact (h s c w).mono fun e w' ⟨h4, h5⟩ => ⟨h4, by rw [h5]; exact Below.refl _ _⟩

theorem repL_zero (s : List UInt8) : repL 0 s = [] := rfl
theorem repL_succ (n : Nat) (s : List UInt8) : repL (n + 1) s = s ++ repL n s := rfl
theorem ex_repeat (hc : Coded P f) (h : ∀ (s : ByteArray) (n : Nat) (w : World), n ≤ 1000000 → s.data.toList.length * n ≤ 1000000 → Calls P f #[.string s, .int .i64 (n : Int)] w fun e w' => e = .returned (.string ⟨(repL n s.data.toList).toArray⟩) ∧ Below w.heap.size w w') : ExOk P f repeatX := by
  refine ex_plain hc fun xs h1 k x r args w hf hr hx => ?_
  obtain ⟨hl, hf⟩ := ifB_some hf
  obtain ⟨a, ha, hf⟩ := nthK_some hf
  obtain ⟨b, hb, hf⟩ := nthK_some hf
  obtain ⟨t1, hf⟩ := ifB_some hf
  obtain ⟨t2, hf⟩ := ifB_some hf
  obtain ⟨t4, hf⟩ := ifB_some hf
  obtain ⟨n, hn, hf⟩ := natK_some hf
  obtain ⟨t3, hf⟩ := ifB_some hf
  obtain ⟨t6, hf⟩ := ifB_some hf
  obtain ⟨u, v, rfl, h2, h3⟩ := args2 hx (beq_of hl) ha hb
  obtain ⟨s, rfl, hs⟩ := h2.inv2 (beq_of t1)
  obtain ⟨ki, rfl, hka⟩ := h3.inv0 (beq_of t2)
  have hki : ki = .i64 := by
    rw [beq_of t4] at hka
    cases ki <;> first | rfl | (cases hka; done)
  subst hki
  rw [hn]
  rw [hs] at t3 hf
  exact ⟨_, _, hf, .str ⟨(repL n s.data.toList).toArray⟩, h s n w (Nat.le_of_ble_eq_true t6) (Nat.le_of_ble_eq_true t3)⟩

theorem joinGo_some {r : Ren} {x : RV} {sep : List UInt8} : ∀ {l : List AV} {k : List UInt8 → R} (vs : List Value), joinGo sep l k = some x → VRs r l vs → ∃ ts : List ByteArray, vs = ts.map Value.string ∧ k (List.intercalate sep (ts.map (·.data.toList))) = some x
  | [], k, vs, hf, hv => by
    cases hv
    exact ⟨[], rfl, hf⟩
  | a :: l, k, vs, hf, hv => by
    cases hv with
    | cons h t =>
      obtain ⟨t1, hf⟩ := ifB_some hf
      obtain ⟨s, rfl, hs⟩ := h.inv2 (beq_of t1)
      cases l with
      | nil =>
        cases t
        have hf : k a.s = some x := hf
        refine ⟨[s], rfl, ?_⟩
        rw [hs] at hf
        simpa [List.intercalate] using hf
      | cons b l =>
        have hf : joinGo sep (b :: l) (fun r => k (a.s ++ (sep ++ r))) = some x := hf
        obtain ⟨ts, h1, h2⟩ := joinGo_some _ hf t
        cases ts with
        | nil => rw [h1] at t; cases t
        | cons t0 ts =>
          refine ⟨s :: t0 :: ts, by rw [h1]; rfl, ?_⟩
          rw [hs] at h2
          simpa [List.intercalate] using h2
theorem row_vals {r : Ren} {cs : List AV} {cur : Array Value} {base : Nat} (hc : ∀ (j : Nat) (a : AV), cs[j]? = some a → ∃ v, cur[base + j]? = some v ∧ VR r a v) : ∀ (n c : Nat), c + n ≤ cs.length → ∃ vs : List Value, VRs r ((cs.drop c).take n) vs ∧ vs.length = n ∧ ∀ (j : Nat) (v : Value), vs[j]? = some v → cur[base + c + j]? = some v
  | 0, c, _ => ⟨[], by simp; exact .nil, rfl, fun j v h => by simp at h⟩
  | n + 1, c, hn => by
    obtain ⟨vs, h1, h2, h3⟩ := row_vals hc n (c + 1) (by omega)
    have e : cs[c]? = some (cs[c]'(by omega)) := List.getElem?_eq_getElem _
    obtain ⟨v, h4, h5⟩ := hc c _ e
    refine ⟨v :: vs, ?_, by simp [h2], fun j u hj => ?_⟩
    · rw [List.drop_eq_getElem_cons (by omega), List.take_succ_cons]
      exact .cons h5 h1
    · cases j with
      | zero => simp at hj; subst hj; exact h4
      | succ j =>
        have := h3 j u (by simpa using hj)
        rw [show base + c + (j + 1) = base + (c + 1) + j by omega]
        exact this

theorem ex_join (hc : Coded P f) (h0 : ∀ (sep : ByteArray) (w : World), Calls P f #[.slice none 0 0, .string sep] w fun e w' => e = .returned (.string ⟨#[]⟩) ∧ Below w.heap.size w w')
    (h : ∀ (bk o c : Nat) (xs : List ByteArray) (sep : ByteArray) (w : World), (∀ (j : Nat) x, xs[j]? = some x → w.cell? ⟨bk, o + j, none⟩ = some (.string x)) → bk < w.heap.size → xs.length ≤ 1000000 → xs.length ≤ c → (List.intercalate sep.data.toList (xs.map (·.data.toList))).length ≤ 1000000 →
      Calls P f #[.slice (some ⟨bk, o, none⟩) xs.length c, .string sep] w fun e w' => e = .returned (.string ⟨(List.intercalate sep.data.toList (xs.map (·.data.toList))).toArray⟩) ∧ Below w.heap.size w w') : ExOk P f joinX := by
  refine ex_plain hc fun xs h1 k x r args w hf hr hx => ?_
  obtain ⟨hl, hf⟩ := ifB_some hf
  obtain ⟨a, ha, hf⟩ := nthK_some hf
  obtain ⟨b, hb, hf⟩ := nthK_some hf
  obtain ⟨t1, hf⟩ := ifB_some hf
  obtain ⟨t2, hf⟩ := ifB_some hf
  obtain ⟨u, v, rfl, h2, h3⟩ := args2 hx (beq_of hl) ha hb
  obtain ⟨sep, rfl, hs⟩ := h3.inv2 (beq_of t2)
  by_cases hn : a.a = 0
  · obtain ⟨rfl, ha2⟩ := h2.inv4n (beq_of t1) (by omega)
    rw [hn] at hf
    have hf : k (.str []) h1 = some x := hf
    exact ⟨_, _, hf, .str ⟨#[]⟩, h0 sep w⟩
  · have hne : Nat.beq a.a 0 = false := by
      cases hb0 : Nat.beq a.a 0 with
      | false => rfl
      | true => exact absurd (Nat.eq_of_beq_eq_true hb0) hn
    rw [hne] at hf
    obtain ⟨o, ho, hf⟩ := optK_some hf
    obtain ⟨t3, hf⟩ := ifB_some hf
    obtain ⟨t4, hf⟩ := ifB_some hf
    obtain ⟨t7, hf⟩ := ifB_some hf
    have t7 := Nat.le_of_ble_eq_true t7
    have ha1 : a.a = 1 := by
      cases h2 <;> first | (cases (beq_of t1); done) | rfl | exact absurd rfl hn
    obtain ⟨p, o', c', h4, rfl, h6, -, h8, -, -, h11⟩ := h2.inv4 (beq_of t1) ha1
    obtain ⟨cur, fz, c1, -, c3, c4, -, c6, -⟩ := (hr.live _ _ _ ho h4).cells (beq_of t3)
    obtain ⟨vs, h12, h13, h14⟩ := row_vals c6 a.d a.c (Nat.le_of_ble_eq_true t4)
    obtain ⟨ts, rfl, hf⟩ := joinGo_some vs hf h12
    obtain ⟨t5, hf⟩ := ifB_some hf
    rw [List.length_map] at h13
    refine ⟨_, _, hf, .str ⟨(List.intercalate b.s (ts.map (·.data.toList))).toArray⟩, ?_⟩
    rw [← h13, hs]
    refine h p.blk o' c' ts sep w (fun j y hj => ?_) (hr.dom _ _ h4).2 (by omega) (by omega) (by rw [← hs]; exact Nat.le_of_ble_eq_true t5)
    have h15 := h14 j (.string y) (by rw [List.getElem?_map, hj]; rfl)
    have hjl : j < ts.length := (List.getElem?_eq_some_iff.1 hj).1
    have ho' : o' = p.base + a.c := by
      rcases h8 with h8 | h8
      · omega
      · exact h8
    rw [cell_of c1, ho']
    exact h15
end
end Go.Proofs.YtfkdkbekmimhoaaGreatDoor
/- The machine for closed runs: slices.Grow of a nil slice by contract: sound. -/
namespace Go.Proofs.YtfkdkbekmimhoaaGreatDoor
open Go.RowKit

section
variable {P : Program} {f : Nat}
theorem ex_grow {e s : Nat} (hc : Coded P f) (hk : szA P e = some s)
    (hG : ∀ (n : Nat) (w : World), 1 ≤ n → n ≤ 1000 → Calls P f #[.slice none 0 0, .int .i64 (n : Int)] w fun en w' => Below w.heap.size w w' ∧
      ∃ g cur c, en = .returned (.slice (some ⟨g, 0, none⟩) 0 c) ∧ w.heap.size ≤ g ∧ g < w'.heap.size ∧ w'.heap[g]? = some (.cells cur e (0, 0)) ∧ c * s ≤ cur.size ∧ c ≤ 9223372036854775807) : ExOk P f (growX e) := by
  intro xs h1 k x r args w hf hr hx
  refine ⟨hc, ?_⟩
  obtain ⟨hl, hf⟩ := ifB_some hf
  obtain ⟨a, ha, hf⟩ := nthK_some hf
  obtain ⟨b, hb, hf⟩ := nthK_some hf
  obtain ⟨t1, hf⟩ := ifB_some hf
  obtain ⟨t2, hf⟩ := ifB_some hf
  obtain ⟨t3, hf⟩ := ifB_some hf
  obtain ⟨t4, hf⟩ := ifB_some hf
  obtain ⟨n, hn, hf⟩ := natK_some hf
  obtain ⟨t5, hf⟩ := ifB_some hf
  obtain ⟨t6, hf⟩ := ifB_some hf
  obtain ⟨u, v, rfl, h2, h3⟩ := args2 hx (beq_of hl) ha hb
  obtain ⟨rfl, -⟩ := h2.inv4n (beq_of t1) (fun e1 => by rw [e1] at t2; cases t2)
  obtain ⟨kd, rfl, hkd⟩ := h3.inv0 (beq_of t3)
  have : kd = .i64 := by
    rw [beq_of t4] at hkd
    exact (kindN_inj (k := .i64) (k' := kd) hkd).symm
  subst this
  rw [hn]
  refine callsIn_wide.2 ((hG n w (Nat.le_of_ble_eq_true t5) (Nat.le_of_ble_eq_true t6)).mono fun en w' ⟨hbl, g, cur, c, he, q1, q2, q3, q4, q5⟩ => ?_)
  have hob : ObR P (r.set h1.next ⟨g, 0, cur.size, s⟩) ⟨g, 0, cur.size, s⟩ w' (.arr [] e) := .arr q3 (.inl rfl) rfl (by simp) hk fun j b hj => by simp at hj
  refine ⟨_, _, _, _, he, hf, ?_, Post.belowNew hr hbl q1 q2 hob⟩
  exact .slc (p := ⟨g, 0, cur.size, s⟩) (Ren.set_same _ _ _) (Nat.zero_le _) (.inl rfl) (.inl rfl) (by simpa using q4) (Nat.le_refl _) q5
end
end Go.Proofs.YtfkdkbekmimhoaaGreatDoor
/- The base: bools, old cells. -/
namespace Go.Proofs.YtfkdkbekmimhoaaGreatDoor
open Go.RowKit

theorem ret_bool {a b : Bool} (h : a = b) : Ending.returned (.bool a) = .returned (.bool b) := by rw [h]
theorem ret_int {k : IntKind} {a b : Int} (h : a = b) : Ending.returned (.int k a) = .returned (.int k b) := by rw [h]

theorem bcell {W w1 : World} (hb : Below W.heap.size W w1) : (∀ b o, b < W.heap.size → w1.cell? ⟨b, o, none⟩ = W.cell? ⟨b, o, none⟩) ∧ (∀ b o, b < W.heap.size → w1.frozen? ⟨b, o, none⟩ = W.frozen? ⟨b, o, none⟩) :=
  ⟨fun b o h => hb.cell (p := ⟨b, o, none⟩) h, fun b o h => hb.frozen (p := ⟨b, o, none⟩) h⟩
theorem below_drewN {B : Nat} {a w : World} (h : Below B a w) (n : Nat) : Below B a (w.drewN n) := ⟨h.os, h.tape, h.output, h.size, h.block⟩

end Go.Proofs.YtfkdkbekmimhoaaGreatDoor
/- Words for memory: rows that are read through a slice value; slices of the call's own, wherever they begin in their block; append to them. No program is named here. -/
namespace Go.Proofs.YtfkdkbekmimhoaaGreatDoor
open Go.RowKit

/-- The rows 'cells c', c in l, are read through a slice at A, all of them in blocks below B. -/
def RowAt {α : Type} (size : Nat) (cells : α → List Value) (w : World) (B : Nat) (A : Option Addr) (l : List α) : Prop :=
  ∀ k c, l[k]? = some c → ∃ b off, A = some ⟨b, off, none⟩ ∧ b < B ∧ ∀ j v, (cells c)[j]? = some v → w.cell? ⟨b, off + k * size + j, none⟩ = some v

theorem RowAt.below {α : Type} {size : Nat} {cells : α → List Value} {w w' : World} {B B' : Nat} {A : Option Addr} {l : List α} (h : RowAt size cells w B A l) (hb : Below B' w w') (hB : B ≤ B') :
    RowAt size cells w' B A l := by
  intro k c hk
  obtain ⟨b, off, hA, hlt, hc⟩ := h k c hk
  exact ⟨b, off, hA, hlt, fun j v hj => (hb.cell (p := ⟨b, _, none⟩) (by show b < B'; omega)).trans (hc j v hj)⟩

theorem RowAt.mono {α : Type} {size : Nat} {cells : α → List Value} {w : World} {B B' : Nat} {A : Option Addr} {l : List α} (h : RowAt size cells w B A l) (hB : B ≤ B') : RowAt size cells w B' A l := by
  intro k c hk
  obtain ⟨b, off, hA, hlt, hc⟩ := h k c hk
  exact ⟨b, off, hA, by omega, hc⟩

/-- Block g is just the cells cs, none frozen. -/
def Blk (w : World) (g : Nat) (t : TypeId) (cs : Array Value) : Prop := w.heap[g]? = some (.cells cs t (0, 0))

section
variable {w w' : World} {g : Nat} {t : TypeId} {cs : Array Value}
theorem Blk.lt (h : Blk w g t cs) : g < w.heap.size := (Array.getElem?_eq_some_iff.1 h).1
theorem Blk.cell (h : Blk w g t cs) (i : Nat) : w.cell? ⟨g, i, none⟩ = cs[i]? := cell_of_row w g i cs t (0, 0) h
theorem Blk.frozen (h : Blk w g t cs) (i : Nat) : w.frozen? ⟨g, i, none⟩ = false := by
  unfold Blk at h
  simp [World.frozen?, h]
theorem Blk.keep (h : Blk w g t cs) (hk : w'.heap[g]? = w.heap[g]?) : Blk w' g t cs := hk.trans h
theorem Blk.new (w : World) (t : TypeId) (cs : Array Value) : Blk (w.alloc (.cells cs t)) w.heap.size t cs := heap_alloc_new w _
theorem Blk.drew (h : Blk w g t cs) : Blk w.drew g t cs := h
theorem Blk.drewN (h : Blk w g t cs) (n : Nat) : Blk (w.drewN n) g t cs := h
theorem Blk.alloc (h : Blk w g t cs) (o : Obj) : Blk (w.alloc o) g t cs := h.keep (Below.heap_alloc w o g h.lt)
theorem Blk.set_ (h : Blk w g t cs) (i : Nat) (u : Value) : Blk (w.setCell ⟨g, i, none⟩ u) g t (cs.setIfInBounds i u) := by
  unfold Blk at h ⊢
  simp [World.setCell, Array.getElem?_modify, h]
theorem Blk.set2 {a b : Value} (h : Blk w g t #[a, b]) (x y : Value) : Blk ((w.setCell ⟨g, 0, none⟩ x).setCell ⟨g, 1, none⟩ y) g t #[x, y] := by
  have := (h.set_ 0 x).set_ 1 y
  simpa using this
theorem Blk.far (h : Blk w g t cs) {p : Addr} (hp : g ≠ p.block) (u : Value) : Blk (w.setCell p u) g t cs := h.keep (Below.heap_setCell w p u g hp)
theorem Blk.below {B : Nat} (h : Blk w g t cs) (hb : Below B w w') (hg : g < B) : Blk w' g t cs := h.keep (hb.block g hg)
theorem Blk.grown {row : Option Nat} (h : Blk w g t cs) (hb : w.grownBy w' row) (hg : some g ≠ row) : Blk w' g t cs := h.keep (hb.block g h.lt hg)
end

/-- A slice of the call's own: nil, or a stretch of a block from 'base' on. -/
def OwnS (w : World) (base : Nat) (e : TypeId) (size : Nat) (v : Value) (n : Nat) (xs : List Value) : Prop :=
  xs.length = n * size ∧ ((v = .slice none 0 0 ∧ n = 0) ∨
    ∃ g off cap cur, v = .slice (some ⟨g, off, none⟩) n cap ∧ base ≤ g ∧ w.heap[g]? = some (.cells cur e (0, 0)) ∧ n ≤ cap ∧ cap ≤ maxLen ∧ off + cap * size ≤ cur.size ∧ (cur.toList.drop off).take (n * size) = xs)

section
variable {w w' : World} {base : Nat} {e : TypeId} {size : Nat} {v : Value} {n : Nat} {xs : List Value}

theorem OwnS.nil (w : World) (base : Nat) (e : TypeId) (size : Nat) : OwnS w base e size (.slice none 0 0) 0 [] := ⟨by simp, .inl ⟨rfl, rfl⟩⟩

theorem OwnS.of_row (h : w.ownsRow base e size v n xs) : OwnS w base e size v n xs := by
  refine ⟨h.1, ?_⟩
  rcases h.2 with h0 | ⟨g, cap, cur, hv, hb, hg, hn, hm, hs, ht⟩
  · exact .inl h0
  · exact .inr ⟨g, 0, cap, cur, hv, hb, hg, hn, hm, by omega, by simpa using ht⟩

/-- A block of the call's own, seen whole. -/
theorem OwnS.block {g : Nat} {cur : Array Value} {n : Nat} (hb : base ≤ g) (hg : w.heap[g]? = some (.cells cur e (0, 0))) (hm : n ≤ maxLen) (hs : cur.size = n * size) : OwnS w base e size (.slice (some ⟨g, 0, none⟩) n n) n cur.toList :=
  ⟨by simpa using hs, .inr ⟨g, 0, n, cur, rfl, hb, hg, Nat.le_refl _, hm, by omega, by rw [List.drop_zero, List.take_of_length_le (by simp; omega)]⟩⟩

theorem OwnS.lt (h : OwnS w base e size v n xs) : ∀ k, v.ownBlock = some k → base ≤ k ∧ k < w.heap.size := by
  intro k hk
  rcases h.2 with ⟨rfl, _⟩ | ⟨g, off, cap, cur, rfl, hb, hg, _⟩
  · simp [Value.ownBlock] at hk
  · simp [Value.ownBlock] at hk
    subst hk
    exact ⟨hb, (Array.getElem?_eq_some_iff.1 hg).1⟩

theorem OwnS.form (h : OwnS w base e size v n xs) (hn : 0 < n) : ∃ g off cap, v = .slice (some ⟨g, off, none⟩) n cap ∧ n ≤ cap ∧ cap ≤ maxLen ∧ base ≤ g ∧ g < w.heap.size ∧ ∀ j u, xs[j]? = some u → w.cell? ⟨g, off + j, none⟩ = some u := by
  rcases h.2 with ⟨_, h0⟩ | ⟨g, off, cap, cur, hv, hb, hg, hn, hm, hs, ht⟩
  · omega
  · refine ⟨g, off, cap, hv, hn, hm, hb, (Array.getElem?_eq_some_iff.1 hg).1, fun j u hu => ?_⟩
    rw [cell_of_row w g (off + j) cur e (0, 0) hg]
    rw [← ht, List.getElem?_take] at hu
    split at hu
    · rw [List.getElem?_drop] at hu
      simpa using hu
    · cases hu

theorem OwnS.shape (h : OwnS w base e size v n xs) : ∃ A c, v = .slice A n c ∧ n ≤ c ∧ c ≤ maxLen := by
  rcases h.2 with ⟨rfl, rfl⟩ | ⟨g, off, cap, cur, hv, hb, hg, hn, hm, hs, ht⟩
  · exact ⟨none, 0, rfl, Nat.le_refl _, by simp [maxLen]⟩
  · exact ⟨_, _, hv, hn, hm⟩

theorem OwnS.of_block (h : OwnS w base e size v n xs) (hk : ∀ g, v.ownBlock = some g → w'.heap[g]? = w.heap[g]?) : OwnS w' base e size v n xs := by
  refine ⟨h.1, ?_⟩
  rcases h.2 with h0 | ⟨g, off, cap, cur, hv, hb, hg, rest⟩
  · exact .inl h0
  · exact .inr ⟨g, off, cap, cur, hv, hb, (hk g (by rw [hv]; rfl)).trans hg, rest⟩

theorem OwnS.kept {row : Option Nat} (h : OwnS w base e size v n xs) (hg : w.grownBy w' row) (hne : v.ownBlock = none ∨ v.ownBlock ≠ row) : OwnS w' base e size v n xs :=
  h.of_block fun g hv => hg.block g (h.lt g hv).2 (by rcases hne with h0 | h0 <;> simp_all)

theorem OwnS.below {B : Nat} (h : OwnS w base e size v n xs) (hb : Below B w w') (hlt : ∀ g, v.ownBlock = some g → g < B) : OwnS w' base e size v n xs :=
  h.of_block fun g hv => hb.block g (hlt g hv)

theorem OwnS.alloc (h : OwnS w base e size v n xs) (o : Obj) : OwnS (w.alloc o) base e size v n xs :=
  h.of_block fun g hv => Below.heap_alloc w o g (h.lt g hv).2

theorem OwnS.drew (h : OwnS w base e size v n xs) : OwnS w.drew base e size v n xs := h
theorem OwnS.drewN (h : OwnS w base e size v n xs) (k : Nat) : OwnS (w.drewN k) base e size v n xs := h

theorem OwnS.setCell (h : OwnS w base e size v n xs) {p : Addr} (hp : v.ownBlock ≠ some p.block) (u : Value) : OwnS (w.setCell p u) base e size v n xs :=
  h.of_block fun g hv => Below.heap_setCell w p u g (fun e1 => hp (by rw [hv, e1]))

theorem OwnS.mono {base' : Nat} (h : OwnS w base e size v n xs) (hb : base' ≤ base) : OwnS w base' e size v n xs := by
  refine ⟨h.1, ?_⟩
  rcases h.2 with h0 | ⟨g, off, cap, cur, hv, hb', rest⟩
  · exact .inl h0
  · exact .inr ⟨g, off, cap, cur, hv, by omega, rest⟩

/-- Nothing is written: its elements stand in blocks below the heap's size. -/
theorem OwnS.rowAt {α : Type} {cells : α → List Value} {l : List α} (h : OwnS w base e size v n xs) {A : Option Addr} {c : Nat} (hv : v = .slice A n c) (hxs : xs = l.flatMap cells) (hl : ∀ c ∈ l, (cells c).length = size) (hn : l.length = n) :
    RowAt size cells w w.heap.size A l := by
  intro k x hk
  have hkn : k < n := by rw [← hn]; exact (List.getElem?_eq_some_iff.1 hk).1
  obtain ⟨g, off, cap, hv', _, _, _, hlt, hc⟩ := h.form (by omega)
  rw [hv] at hv'
  cases hv'
  refine ⟨g, off, rfl, hlt, fun j u hj => ?_⟩
  rw [Nat.add_assoc]
  refine hc _ _ ?_
  subst hxs
  clear h hv hlt hc hkn hn
  induction l generalizing k with
  | nil => simp at hk
  | cons y ys ih =>
    have hy := hl y (by simp)
    have hjs : j < (cells x).length := (List.getElem?_eq_some_iff.1 hj).1
    rw [List.flatMap_cons]
    cases k with
    | zero =>
      simp at hk
      subst hk
      rw [List.getElem?_append_left (by omega), ← hj]
      simp
    | succ k =>
      rw [List.getElem?_append_right (by rw [hy, Nat.succ_mul]; omega), hy]
      have := ih (fun c hc => hl c (by simp [hc])) k (by simpa using hk)
      rw [← this]
      congr 1
      rw [Nat.succ_mul]
      omega
end

section
variable {P : Program} (w : World)

theorem run_append_room_off (t ty e : TypeId) (i : TypeInfo) (ht : P.underlying t = some (.slice e)) (hi : P.info? e = some i)
    (g off sLen sCap : Nat) (cur : Array Value) (hg : w.heap[g]? = some (.cells cur e (0, 0)))
    (a : Addr) (m c : Nat) (news : List Value) (hl : news.length = m * i.size) (hnews : ∀ j u, news[j]? = some u → w.cell? (a.add j) = some u) (h1 : ∀ u ∈ news, u.oneCell' = true)
    (hroom : sLen + m ≤ sCap) (hfit : off + sLen * i.size + news.length ≤ cur.size) :
    (Builtin.append_ #[t, t] ty #[.slice (some ⟨g, off, none⟩) sLen sCap, .slice (some a) m c]).run P w =
      .ok (.slice (some ⟨g, off, none⟩) (sLen + m) sCap) (w.setRow g (cur.toList.take (off + sLen * i.size) ++ news ++ cur.toList.drop (off + sLen * i.size + news.length)).toArray) := by
  have hf := run_firstCells_some (P := P) w i.size m a m c news hl hnews
  have hst := run_storeCells_at P g (off + sLen * i.size) e news 0 cur w hg (by simpa using hfit) h1
  simp only [Nat.add_zero] at hst
  simp [Builtin.append_, run_underlying ht, sizeOf, typeInfo, hi, Builtin.lenOf, hroom, hf, Addr.add_lit, hst]

theorem run_slice_from (t e : TypeId) (i : TypeInfo) (ht : P.underlying t = some (.slice e)) (hi : P.info? e = some i) (a : Option Addr) (len cap k : Nat) (hk : k ≤ len) :
    (Instr.slice t (.slice a len cap) (some (.int .i64 (k : Int))) none none).run P w = .ok (.slice (if cap = k then a else a.map (·.add (k * i.size))) (len - k) (cap - k)) w := by
  have h : ¬ len < k := by omega
  simp [Instr.slice, run_underlying ht, Instr.sliceBounds, Instr.sliceBound, asIntOf, sizeOf, typeInfo, hi]
  exact fun h' => absurd h' h

/-- append to a slice of the call's own, wherever it begins: the new one owns the cells and the new ones; only its old block and new ones have turned. -/
theorem run_append_S (base : Nat) (t ty e : TypeId) (i : TypeInfo) (z : Value) (size bytes : Nat) (ht : P.underlying t = some (.slice e)) (hi : P.info? e = some i) (hz : i.zero = some z)
    (hsize : i.size = size) (hby : i.bytes = bytes) (hzs : z.cells.size = size)
    (v : Value) (n : Nat) (xs : List Value) (hown : OwnS w base e size v n xs)
    (a : Addr) (m c : Nat) (news : List Value) (hl : news.length = m * size) (hnews : ∀ j u, news[j]? = some u → w.cell? (a.add j) = some u) (h1 : ∀ u ∈ news, u.oneCell' = true)
    (h63 : n + m ≤ maxLen) (hbytes : (n + m) * bytes ≤ 140737488355328) (hbase : base ≤ w.heap.size) :
    ∃ v' w', (Builtin.append_ #[t, t] ty #[v, .slice (some a) m c]).run P w = .ok v' w' ∧ OwnS w' base e size v' (n + m) (xs ++ news) ∧ w.grownBy w' v.ownBlock ∧
      (v'.ownBlock = v.ownBlock ∨ v'.ownBlock = some w.heap.size) := by
  subst hsize
  subst hby
  have hsmall : n + m ≤ 9223372036854775807 := by simp only [maxLen] at h63; omega
  have hlen : (xs ++ news).length = (n + m) * i.size := by rw [List.length_append, hown.1, hl, Nat.add_mul]
  have grown : ∀ (old : Nat), old < n + m → ∀ (row : Option Nat),
      OwnS (w.drew.alloc (.cells (xs.toArray ++ news.toArray ++ Builtin.zeroCells z.cells (grownCap w (n + m) old e - (n + m))) e)) base e i.size
        (.slice (some ⟨w.heap.size, 0, none⟩) (n + m) (grownCap w (n + m) old e)) (n + m) (xs ++ news) ∧
      w.grownBy (w.drew.alloc (.cells (xs.toArray ++ news.toArray ++ Builtin.zeroCells z.cells (grownCap w (n + m) old e - (n + m))) e)) row := by
    intro old ho row
    have hge := grownCap_ge w (n + m) old e
    have hcm : grownCap w (n + m) old e ≤ maxLen := grownCap_le_maxLen w (n + m) old e h63
    refine ⟨⟨hlen, .inr ⟨w.heap.size, 0, _, _, rfl, hbase, heap_alloc_new w.drew _, hge, hcm, ?_, ?_⟩⟩, ⟨rfl, rfl, rfl, by simp, fun k hk _ => Below.heap_alloc w.drew _ k hk⟩⟩
    · simp only [Array.size_append, List.size_toArray, size_zeroCells, hzs, hown.1, hl, ← Nat.add_mul]
      rw [Nat.zero_add]
      exact Nat.mul_le_mul_right _ (by omega)
    · simp only [Array.toList_append, List.append_assoc, List.drop_zero]
      rw [← List.append_assoc, ← hlen]
      exact List.take_left
  rcases hown.2 with ⟨rfl, rfl⟩ | ⟨g, off, cap, cur, rfl, hbg, hg, hnc, hcm, hcs, htake⟩
  · have hx : xs = [] := List.eq_nil_of_length_eq_zero (by simpa using hown.1)
    subst hx
    by_cases hm : m = 0
    · subst hm
      have hn : news = [] := List.eq_nil_of_length_eq_zero (by simpa using hl)
      subst hn
      refine ⟨.slice none 0 0, w, ?_, OwnS.nil w base e i.size, ⟨rfl, rfl, rfl, Nat.le_refl _, fun _ _ _ => rfl⟩, .inl rfl⟩
      simp [Builtin.append_, run_underlying ht, sizeOf, typeInfo, hi, Builtin.lenOf, Builtin.firstCells, loadCells, loadCellsFrom]
    · have hr := run_append_nil (P := P) w t ty e i z ht hi hz a m c news hl hnews (by omega) (by omega) (by have hb := hbytes; simp only [Nat.zero_add] at hb; omega)
      have hgr := grown 0 (by omega) (Value.ownBlock (.slice none 0 0))
      simp only [Nat.zero_add, List.nil_append, Array.empty_append] at hgr ⊢
      exact ⟨_, _, hr, hgr.1, hgr.2, .inr rfl⟩
  · by_cases hroom : n + m ≤ cap
    · have hfit : off + n * i.size + news.length ≤ cur.size := by
        rw [hl]
        have h2 : (n + m) * i.size ≤ cap * i.size := Nat.mul_le_mul_right _ hroom
        rw [Nat.add_mul] at h2
        omega
      have hr := run_append_room_off (P := P) w t ty e i ht hi g off n cap cur hg a m c news hl hnews h1 hroom hfit
      refine ⟨_, _, hr, ⟨hlen, .inr ⟨g, off, cap, _, rfl, hbg, setRow_heap w g cur _ e _ hg, hroom, hcm, ?_, ?_⟩⟩, ⟨rfl, rfl, rfl, by simp, fun k _ hk => setRow_other w g k _ (fun e => hk (by simp [Value.ownBlock, e]))⟩, .inl rfl⟩
      · simp only [List.size_toArray, List.length_append, List.length_take, List.length_drop, Array.length_toList]
        omega
      · rw [← htake, Nat.add_mul, ← hl]
        have hoff : off ≤ (cur.toList.take (off + n * i.size)).length := by simp; omega
        rw [List.append_assoc, List.drop_append_of_le_length hoff, List.drop_take, Nat.add_sub_cancel_left]
        have hk : (List.take (n * i.size) (List.drop off cur.toList)).length = n * i.size := by simp; omega
        rw [← List.append_assoc]
        exact List.take_left' (by rw [List.length_append, hk])
    · have holds : ∀ j u, xs[j]? = some u → w.cell? ((⟨g, off, none⟩ : Addr).add j) = some u := by
        intro j u hu
        have hjn : j < n * i.size := by rw [← hown.1]; exact (List.getElem?_eq_some_iff.1 hu).1
        have hn0 : 0 < n := Nat.pos_of_ne_zero (by rintro rfl; simp at hjn)
        obtain ⟨g', off', cap', hv', _, _, _, _, hc⟩ := hown.form hn0
        cases hv'
        rw [Addr.add_lit]
        exact hc j u hu
      have hr := run_append_grow (P := P) w t ty e i z ht hi hz ⟨g, off, none⟩ n cap xs hown.1 holds a m c news hl hnews (by omega) (by omega) (growslice_fits (by omega) hbytes)
      have hgr := grown cap (by omega) (Value.ownBlock (.slice (some ⟨g, off, none⟩) n cap))
      exact ⟨_, _, hr, hgr.1, hgr.2, .inr rfl⟩

theorem wp_append_S {o : Oper} {a : Act} {K : Act → World → Prop} {Q : Exit → Act → World → Prop} (s x : Operand) (t : TypeId)
    (ho : o.op = .call { callee := .builtin .append, args := #[s, x], argTypes := #[t, t] })
    (base : Nat) (e : TypeId) (i : TypeInfo) (z : Value) (size bytes : Nat) (ht : P.underlying t = some (.slice e)) (hi : P.info? e = some i) (hz : i.zero = some z)
    (hsize : i.size = size) (hby : i.bytes = bytes) (hzs : z.cells.size = size)
    (v : Value) (n : Nat) (xs : List Value) (hs : a.eval s = v) (hown : OwnS w base e size v n xs)
    (ad : Addr) (m c : Nat) (news : List Value) (hx : a.eval x = .slice (some ad) m c) (hl : news.length = m * size) (hnews : ∀ j u, news[j]? = some u → w.cell? (ad.add j) = some u) (h1 : ∀ u ∈ news, u.oneCell' = true)
    (h63 : n + m ≤ maxLen) (hbytes : (n + m) * bytes ≤ 140737488355328) (hbase : base ≤ w.heap.size)
    (h : ∀ v' w', OwnS w' base e size v' (n + m) (xs ++ news) → w.grownBy w' v.ownBlock → (v'.ownBlock = v.ownBlock ∨ v'.ownBlock = some w.heap.size) → K (a.put o.dst v') w') : o.wp P a w K Q := by
  obtain ⟨v', w', hr, h2, h3, h4⟩ := run_append_S (P := P) w base t o.type e i z size bytes ht hi hz hsize hby hzs v n xs hown ad m c news hl hnews h1 h63 hbytes hbase
  unfold Oper.wp execOp
  simp only [ho, resolve, invoke, builtin, Sem.run_bind, Sem.run_pure, Result.andThen_ok, List.map_toArray, List.map_cons, List.map_nil, hs, hx, hr]
  exact h v' w' h2 h3 h4

theorem wpList_append_S {ops : Array Oper} {rest : List Oper} {o : Oper} {a : Act} {Q : Exit → Act → World → Prop} (hgd : o.guard = none) (s x : Operand) (t : TypeId)
    (ho : o.op = .call { callee := .builtin .append, args := #[s, x], argTypes := #[t, t] })
    (base : Nat) (e : TypeId) (i : TypeInfo) (z : Value) (size bytes : Nat) (ht : P.underlying t = some (.slice e)) (hi : P.info? e = some i) (hz : i.zero = some z)
    (hsize : i.size = size) (hby : i.bytes = bytes) (hzs : z.cells.size = size)
    (v : Value) (n : Nat) (xs : List Value) (hs : a.eval s = v) (hown : OwnS w base e size v n xs)
    (ad : Addr) (m c : Nat) (news : List Value) (hx : a.eval x = .slice (some ad) m c) (hl : news.length = m * size) (hnews : ∀ j u, news[j]? = some u → w.cell? (ad.add j) = some u) (h1 : ∀ u ∈ news, u.oneCell' = true)
    (h63 : n + m ≤ maxLen) (hbytes : (n + m) * bytes ≤ 140737488355328) (hbase : base ≤ w.heap.size)
    (h : ∀ v' w', OwnS w' base e size v' (n + m) (xs ++ news) → w.grownBy w' v.ownBlock → (v'.ownBlock = v.ownBlock ∨ v'.ownBlock = some w.heap.size) → wpList P ops Q rest (a.put o.dst v') w') : wpList P ops Q (o :: rest) a w :=
  wpList_plain hgd fun _ hK => wp_append_S w s x t ho base e i z size bytes ht hi hz hsize hby hzs v n xs hs hown ad m c news hx hl hnews h1 h63 hbytes hbase fun v' w' h2 h3 h4 => hK _ _ (h v' w' h2 h3 h4)

theorem step_append_S {ops : Array Oper} {o : Oper} {a : Act} {K : Act → World → Prop} {Q : Exit → Act → World → Prop} {E : Prop} (hgd : o.guard = none) (s x : Operand) (t : TypeId)
    (ho : o.op = .call { callee := .builtin .append, args := #[s, x], argTypes := #[t, t] })
    (base : Nat) (e : TypeId) (i : TypeInfo) (z : Value) (size bytes : Nat) (ht : P.underlying t = some (.slice e)) (hi : P.info? e = some i) (hz : i.zero = some z)
    (hsize : i.size = size) (hby : i.bytes = bytes) (hzs : z.cells.size = size)
    (v : Value) (n : Nat) (xs : List Value) (hs : a.eval s = v) (hown : OwnS w base e size v n xs)
    (ad : Addr) (m c : Nat) (news : List Value) (hx : a.eval x = .slice (some ad) m c) (hl : news.length = m * size) (hnews : ∀ j u, news[j]? = some u → w.cell? (ad.add j) = some u) (h1 : ∀ u ∈ news, u.oneCell' = true)
    (h63 : n + m ≤ maxLen) (hbytes : (n + m) * bytes ≤ 140737488355328) (hbase : base ≤ w.heap.size)
    (h : ∀ v' w', OwnS w' base e size v' (n + m) (xs ++ news) → w.grownBy w' v.ownBlock → (v'.ownBlock = v.ownBlock ∨ v'.ownBlock = some w.heap.size) → K (a.put o.dst v') w') :
    if Region.wanted o (yielded ops a.tmps) = true then Oper.wp P o a w K Q else E := by
  have hw : Region.wanted o (yielded ops a.tmps) = true := by simp [Region.wanted, hgd]
  rw [if_pos hw]
  exact wp_append_S w s x t ho base e i z size bytes ht hi hz hsize hby hzs v n xs hs hown ad m c news hx hl hnews h1 h63 hbytes hbase h

end

end Go.Proofs.YtfkdkbekmimhoaaGreatDoor
/- Maps keyed by ints: a block that is a map reads as a function from keys to values; look-up and store. No program is named here. -/
namespace Go.Proofs.YtfkdkbekmimhoaaGreatDoor
open Go.RowKit

def isKey (k : Int) (e : MapEntry) : Bool :=
  match e.key with
  | .int .i64 j => decide (k = j)
  | _ => false

def valAt (es : List MapEntry) (k : Int) : Option Value := (es.find? (isKey k)).map (·.val)

def intKeys (es : List MapEntry) : Prop := ∀ e ∈ es, ∃ k, e.key = .int .i64 k

theorem findNow_int (k : Int) : ∀ (es : List MapEntry) (i : Nat), intKeys es →
    Instr.findNow (.int .i64) (.int .i64 k) es i = some ((es.findIdx? (isKey k)).bind fun j => (es[j]?).map fun e => (i + j, e.val)) := by
  intro es
  induction es with
  | nil => intro i _; rfl
  | cons e es ih =>
    intro i hk
    obtain ⟨j, hj⟩ := hk e (by simp)
    have hes : intKeys es := fun e he => hk e (by simp [he])
    by_cases h : k = j
    · subst h
      simp [Instr.findNow, Instr.sameNow, hj, isKey, List.findIdx?_cons]
    · have h2 : (k == j) = false := by simpa using h
      simp only [Instr.findNow, Instr.sameNow, hj, if_true, h2]
      rw [ih (i + 1) hes]
      have hki : isKey k e = false := by simp [isKey, hj, h]
      simp only [List.findIdx?_cons, hki, Bool.false_eq_true, if_false]
      cases hx : es.findIdx? (isKey k) with
      | none => rfl
      | some x => simp [Nat.add_comm, Nat.add_left_comm]

/-- Block r is a map keyed by ints that holds f. -/
def IMap (w : World) (r : Nat) (f : Int → Option Value) : Prop :=
  ∃ es clock, w.heap[r]? = some (.map es clock) ∧ intKeys es.toList ∧ ∀ k, valAt es.toList k = f k

section
variable {w w' : World} {r : Nat} {f : Int → Option Value}
theorem IMap.keep (h : IMap w r f) (hk : w'.heap[r]? = w.heap[r]?) : IMap w' r f := by
  obtain ⟨es, clock, h1, h2⟩ := h
  exact ⟨es, clock, hk.trans h1, h2⟩
theorem IMap.lt (h : IMap w r f) : r < w.heap.size := by
  obtain ⟨es, clock, h1, _⟩ := h
  exact (Array.getElem?_eq_some_iff.1 h1).1
theorem IMap.alloc (h : IMap w r f) (o : Obj) : IMap (w.alloc o) r f := h.keep (Below.heap_alloc w o r h.lt)
theorem IMap.drew (h : IMap w r f) : IMap w.drew r f := h
theorem IMap.drewN (h : IMap w r f) (n : Nat) : IMap (w.drewN n) r f := h
theorem IMap.setCell (h : IMap w r f) {p : Addr} (hp : r ≠ p.block) (u : Value) : IMap (w.setCell p u) r f := h.keep (Below.heap_setCell w p u r hp)
theorem IMap.below {B : Nat} (h : IMap w r f) (hb : Below B w w') (hg : r < B) : IMap w' r f := h.keep (hb.block r hg)
theorem IMap.grown {row : Option Nat} (h : IMap w r f) (hb : w.grownBy w' row) (hg : some r ≠ row) : IMap w' r f := h.keep (hb.block r h.lt hg)
theorem IMap.made (w : World) : IMap (w.alloc (.map #[] 0)) w.heap.size (fun _ => none) := ⟨#[], 0, heap_alloc_new w _, by intro e he; simp at he, fun k => rfl⟩
end

section
variable {P : Program} {w : World} {t kt et : TypeId} {r : Nat} {f : Int → Option Value}

theorem run_findKey_int (hk : P.underlying kt = some (.int .i64)) (k : Int) (es : List MapEntry) (h : intKeys es) (w : World) :
    (Instr.findKey kt (.int .i64 k) es).run P w = .ok ((es.findIdx? (isKey k)).bind fun j => (es[j]?).map fun e => (j, e.val)) w := by
  simp [Instr.findKey, run_underlying hk, findNow_int k es 0 h]

theorem run_checkKey_int (b : Bool) (n : Nat) (hk : P.underlying kt = some (.int .i64)) (k : Int) (w : World) : (Instr.checkKey b (n + 1) kt (.int .i64 k)).run P w = .ok () w := by
  simp [Instr.checkKey, run_underlying hk]

theorem valAt_idx (es : List MapEntry) (k : Int) : valAt es k = (es.findIdx? (isKey k)).bind fun j => (es[j]?).map (·.val) := by
  unfold valAt
  induction es with
  | nil => rfl
  | cons e es ih =>
    by_cases h : isKey k e = true
    · simp [List.findIdx?_cons, h]
    · simp only [List.find?_cons, List.findIdx?_cons, h, if_false, Bool.false_eq_true]
      rw [ih]
      cases es.findIdx? (isKey k) <;> simp

theorem run_lookup_int (ht : P.underlying t = some (.map kt et)) (hk : P.underlying kt = some (.int .i64)) {z : Value} (hz : ∀ w, (zeroValue et).run P w = .ok z w) (h : IMap w r f) (k : Int) :
    (Instr.lookup t (.map (some r)) (.int .i64 k) false).run P w = .ok ((f k).getD z) w := by
  obtain ⟨es, clock, h1, h2, h3⟩ := h
  have h4 := h3 k
  rw [valAt_idx] at h4
  simp [Instr.lookup, run_underlying ht, MapKept.run_getObj_map h1, run_checkKey_int _ _ hk, run_findKey_int hk k es.toList h2]
  cases hx : es.toList.findIdx? (isKey k) with
  | none =>
    rw [hx] at h4
    simp at h4
    rw [← h4]
    simp [hz]
  | some j =>
    rw [hx] at h4
    have hj : j < es.toList.length := by
      have := List.findIdx?_eq_some_iff_getElem.1 hx
      exact this.1
    simp only [Option.bind_some, List.getElem?_eq_getElem hj, Option.map_some] at h4 ⊢
    rw [← h4]
    have hj' : j < es.size := by simpa using hj
    simp [Array.getElem?_eq_getElem hj']

theorem valAt_cons (e : MapEntry) (es : List MapEntry) (k : Int) : valAt (e :: es) k = if isKey k e = true then some e.val else valAt es k := by
  unfold valAt
  by_cases h : isKey k e = true
  · simp [h]
  · simp [h]

theorem valAt_modify (k j : Int) (v : Value) : ∀ (es : List MapEntry) (i : Nat), es.findIdx? (isKey k) = some i → intKeys es →
    valAt (es.modify i fun e => { e with key := .int .i64 k, val := v }) j = if j = k then some v else valAt es j := by
  intro es
  induction es with
  | nil => intro i h; simp at h
  | cons e es ih =>
    intro i h hk
    obtain ⟨q, hq⟩ := hk e (by simp)
    rw [List.findIdx?_cons] at h
    by_cases hke : isKey k e = true
    · rw [if_pos hke] at h
      cases h
      have hqk : k = q := by
        unfold isKey at hke
        rw [hq] at hke
        simpa using hke
      subst hqk
      rw [List.modify_zero_cons, valAt_cons, valAt_cons]
      have h1 : isKey j { e with key := .int .i64 k, val := v } = decide (j = k) := rfl
      have h2 : isKey j e = decide (j = k) := by unfold isKey; rw [hq]
      rw [h1, h2]
      by_cases hj : j = k <;> simp [hj]
    · rw [if_neg hke] at h
      cases hx : es.findIdx? (isKey k) with
      | none => rw [hx] at h; cases h
      | some i' =>
        rw [hx] at h
        cases h
        rw [List.modify_succ_cons, valAt_cons, valAt_cons, ih i' hx (fun e he => hk e (by simp [he]))]
        by_cases hje : isKey j e = true
        · have hj : j ≠ k := by rintro rfl; exact hke hje
          simp [hje, hj]
        · simp [hje]

theorem intKeys_modify (k : Int) (v : Value) : ∀ (es : List MapEntry) (i : Nat), intKeys es → intKeys (es.modify i fun e => { e with key := .int .i64 k, val := v }) := by
  intro es
  induction es with
  | nil => intro i h; simpa using h
  | cons e es ih =>
    intro i h
    cases i with
    | zero =>
      intro x hx
      rw [List.modify_zero_cons] at hx
      rcases List.mem_cons.1 hx with rfl | hx
      · exact ⟨k, rfl⟩
      · exact h x (by simp [hx])
    | succ i =>
      intro x hx
      rw [List.modify_succ_cons] at hx
      rcases List.mem_cons.1 hx with rfl | hx
      · exact h x (by simp)
      · exact ih i (fun e he => h e (by simp [he])) x hx

/-- A store: the same function but at k; only block r has turned. -/
theorem run_mapUpdate_int (ht : P.underlying t = some (.map kt et)) (hk : P.underlying kt = some (.int .i64)) (h : IMap w r f) (k : Int) (v : Value) :
    ∃ w2, (Instr.mapUpdate t (.map (some r)) (.int .i64 k) v).run P w = .ok () w2 ∧ IMap w2 r (fun j => if j = k then some v else f j) ∧ w.grownBy w2 (some r) ∧ w2.heap.size = w.heap.size := by
  obtain ⟨es, clock, h1, h2, h3⟩ := h
  have hlt : r < w.heap.size := (Array.getElem?_eq_some_iff.1 h1).1
  have hgr : ∀ o : Obj, w.grownBy { w with heap := w.heap.setIfInBounds r o } (some r) := fun o =>
    ⟨rfl, rfl, rfl, by simp, fun i _ hi => by simp [Array.getElem?_setIfInBounds]; intro e; exact absurd (by rw [e]) hi⟩
  have hat : ∀ o : Obj, ({ w with heap := w.heap.setIfInBounds r o } : World).heap[r]? = some o := fun o => by simp [hlt]
  cases hx : es.toList.findIdx? (isKey k) with
  | none =>
    refine ⟨{ w with heap := w.heap.setIfInBounds r (.map (es.push { key := .int .i64 k, val := v, born := clock }) (clock + 1)) }, ?_, ⟨_, _, hat _, ?_, ?_⟩, hgr _, by simp⟩
    · simp [Instr.mapUpdate, run_underlying ht, MapKept.run_getObj_map h1, run_checkKey_int _ _ hk, run_findKey_int hk k es.toList h2, hx, MapKept.run_setObj_map _ h1]
    · intro e he
      simp at he
      rcases he with he | rfl
      · exact h2 e (by simpa using he)
      · exact ⟨k, rfl⟩
    · intro j
      have hn : ∀ e ∈ es.toList, isKey k e = false := by simpa using hx
      by_cases hj : j = k
      · subst hj
        have : es.toList.find? (isKey j) = none := by simpa using hn
        simp [valAt, List.find?_append, this, isKey]
      · have hs : isKey j ⟨.int .i64 k, v, clock⟩ = false := by simp [isKey, hj]
        simp only [if_neg hj, ← h3 j, valAt, Array.toList_push, List.find?_append, List.find?_cons, hs, List.find?_nil, Option.or_none]
  | some i =>
    have hi := List.findIdx?_eq_some_iff_getElem.1 hx
    obtain ⟨hil, hik, hib⟩ := hi
    have hkey : es.toList[i].key = .int .i64 k := by
      obtain ⟨j, hj⟩ := h2 _ (List.getElem_mem hil)
      rw [hj]
      unfold isKey at hik
      rw [hj] at hik
      simp at hik
      rw [hik]
    have hil' : i < es.size := by simpa using hil
    have hkey' : es[i].key = .int .i64 k := by simpa using hkey
    refine ⟨{ w with heap := w.heap.setIfInBounds r (.map (es.modify i fun e => { e with key := .int .i64 k, val := v }) clock) }, ?_, ⟨_, _, hat _, ?_, ?_⟩, hgr _, by simp⟩
    · simp [Instr.mapUpdate, run_underlying ht, MapKept.run_getObj_map h1, run_checkKey_int _ _ hk, run_findKey_int hk k es.toList h2, hx, MapKept.run_setObj_map _ h1, Instr.keyThatStays, Instr.sameBits, hil', hkey']
    · rw [Array.toList_modify]
      exact intKeys_modify k v _ _ h2
    · intro j
      rw [Array.toList_modify, valAt_modify k j v _ _ hx h2, h3]

end
end Go.Proofs.YtfkdkbekmimhoaaGreatDoor
/- What has turned since; rows of other elements. No program is named here. -/
namespace Go.Proofs.YtfkdkbekmimhoaaGreatDoor
open Go.RowKit

/-- But for the blocks in S nothing that was there has turned. -/
structure Since (S : Nat → Prop) (w w' : World) : Prop where
  os : w'.os = w.os
  tape : w'.tape = w.tape
  output : w'.output = w.output
  size : w.heap.size ≤ w'.heap.size
  block : ∀ k, k < w.heap.size → ¬ S k → w'.heap[k]? = w.heap[k]?

section
variable {S : Nat → Prop} {a w w' : World}
theorem Since.refl (S : Nat → Prop) (w : World) : Since S w w := ⟨rfl, rfl, rfl, Nat.le_refl _, fun _ _ _ => rfl⟩
theorem Since.trans {b c : World} (h : Since S a b) (k : Since S b c) : Since S a c :=
  ⟨k.os.trans h.os, k.tape.trans h.tape, k.output.trans h.output, Nat.le_trans h.size k.size, fun i hi hs => (k.block i (Nat.lt_of_lt_of_le hi h.size) hs).trans (h.block i hi hs)⟩
theorem Since.drew (h : Since S a w) : Since S a w.drew := ⟨h.os, h.tape, h.output, h.size, h.block⟩
theorem Since.drewN (h : Since S a w) (n : Nat) : Since S a (w.drewN n) := ⟨h.os, h.tape, h.output, h.size, h.block⟩
theorem Since.alloc (h : Since S a w) (o : Obj) : Since S a (w.alloc o) :=
  ⟨h.os, h.tape, h.output, Nat.le_trans h.size (by simp), fun i hi hs => (Below.heap_alloc w o i (Nat.lt_of_lt_of_le hi h.size)).trans (h.block i hi hs)⟩
theorem Since.setCell (h : Since S a w) {p : Addr} (hp : S p.block ∨ a.heap.size ≤ p.block) (u : Value) : Since S a (w.setCell p u) :=
  ⟨h.os, h.tape, h.output, by simpa [World.setCell] using h.size, fun i hi hs => (Below.heap_setCell w p u i (by
    rintro rfl
    rcases hp with hp | hp
    · exact hs hp
    · omega)).trans (h.block i hi hs)⟩
theorem Since.grown {row : Option Nat} (h : Since S a w) (hg : w.grownBy w' row) (hr : ∀ k, row = some k → S k ∨ a.heap.size ≤ k) : Since S a w' :=
  ⟨hg.os.trans h.os, hg.tape.trans h.tape, hg.output.trans h.output, Nat.le_trans h.size hg.size, fun i hi hs => (hg.block i (Nat.lt_of_lt_of_le hi h.size) (fun e => by
    rcases hr i e.symm with h1 | h1
    · exact hs h1
    · omega)).trans (h.block i hi hs)⟩
theorem Since.below (h : Since S a w) (hb : Below w.heap.size w w') : Since S a w' :=
  ⟨hb.os.trans h.os, hb.tape.trans h.tape, hb.output.trans h.output, Nat.le_trans h.size hb.size, fun i hi hs => (hb.block i (Nat.lt_of_lt_of_le hi h.size)).trans (h.block i hi hs)⟩
theorem Since.toBelow {B : Nat} (h : Since S a w) (hB : B ≤ a.heap.size) (hS : ∀ k, S k → B ≤ k) : Below B a w :=
  ⟨h.os, h.tape, h.output, h.size, fun i hi => h.block i (by omega) (fun hs => by have := hS i hs; omega)⟩
theorem Since.mono {S' : Nat → Prop} (h : Since S a w) (hS : ∀ k, S k → S' k) : Since S' a w := ⟨h.os, h.tape, h.output, h.size, fun i hi hs => h.block i hi (fun h1 => hs (hS i h1))⟩
theorem Blk.since {g : Nat} {t : TypeId} {cs : Array Value} (h : Blk w g t cs) (hs : Since S w w') (hg : ¬ S g) : Blk w' g t cs := h.keep (hs.block g h.lt hg)
theorem OwnS.since {base : Nat} {e : TypeId} {size : Nat} {v : Value} {n : Nat} {xs : List Value} (h : OwnS w base e size v n xs) (hs : Since S w w') (hS : ∀ g, v.ownBlock = some g → ¬ S g) : OwnS w' base e size v n xs :=
  h.of_block fun g hv => hs.block g (h.lt g hv).2 (hS g hv)
theorem IMap.since {r : Nat} {f : Int → Option Value} (h : IMap w r f) (hs : Since S w w') (hg : ¬ S r) : IMap w' r f := h.keep (hs.block r h.lt hg)
end

/-- Rows of other elements lie in other blocks. -/
theorem OwnS.apart {w : World} {base base' : Nat} {e e' : TypeId} {size size' : Nat} {v v' : Value} {n n' : Nat} {xs xs' : List Value} (h : OwnS w base e size v n xs) (h' : OwnS w base' e' size' v' n' xs') (hne : e ≠ e') :
    ∀ g, v.ownBlock = some g → v'.ownBlock ≠ some g := by
  intro g hv hv'
  rcases h.2 with ⟨rfl, _⟩ | ⟨g1, off1, cap1, cur1, rfl, _, hg1, _⟩
  · cases hv
  · rcases h'.2 with ⟨rfl, _⟩ | ⟨g2, off2, cap2, cur2, rfl, _, hg2, _⟩
    · cases hv'
    · simp [Value.ownBlock] at hv hv'
      subst hv
      subst hv'
      rw [hg1] at hg2
      simp at hg2
      exact hne hg2.2

theorem Since.step {S S' : Nat → Prop} {a b c : World} (h : Since S a b) (k : Since S' b c) (hS : ∀ g, S' g → S g ∨ a.heap.size ≤ g) : Since S a c :=
  ⟨k.os.trans h.os, k.tape.trans h.tape, k.output.trans h.output, Nat.le_trans h.size k.size, fun i hi hs => (k.block i (Nat.lt_of_lt_of_le hi h.size) (fun h1 => by
    rcases hS i h1 with h2 | h2
    · exact hs h2
    · omega)).trans (h.block i hi hs)⟩

theorem Blk.set3 {w : World} {g : Nat} {t : TypeId} {a b c : Value} (h : Blk w g t #[a, b, c]) (x y z : Value) : Blk (((w.setCell ⟨g, 0, none⟩ x).setCell ⟨g, 1, none⟩ y).setCell ⟨g, 2, none⟩ z) g t #[x, y, z] := by
  have := ((h.set_ 0 x).set_ 1 y).set_ 2 z
  simpa using this

theorem news_one (w : World) (g : Nat) (u : Value) (h : w.cell? ⟨g, 0, none⟩ = some u) : ∀ j v, [u][j]? = some v → w.cell? ((⟨g, 0, none⟩ : Addr).add j) = some v := by
  intro j v hj
  cases j with
  | zero => simp at hj; subst hj; exact h
  | succ j => simp at hj

theorem below_alloc (w : World) (o : Obj) : Below w.heap.size w (w.alloc o) := (Below.refl _ _).alloc (Nat.le_refl _) _

theorem RowAt.later {α : Type} {size : Nat} {cells : α → List Value} {w w' : World} {A : Option Addr} {l : List α} (h : RowAt size cells w w.heap.size A l) (hb : Below w.heap.size w w') : RowAt size cells w' w'.heap.size A l := (h.below hb (Nat.le_refl _)).mono hb.size

theorem OwnS.ne_blk {w : World} {base : Nat} {e : TypeId} {size : Nat} {v : Value} {n : Nat} {xs : List Value} (h : OwnS w base e size v n xs) {g : Nat} {t : TypeId} {cs : Array Value} (hb : Blk w g t cs) (hne : e ≠ t) : v.ownBlock ≠ some g := by
  intro hv
  rcases h.2 with ⟨rfl, _⟩ | ⟨g1, off1, cap1, cur1, rfl, _, hg1, _⟩
  · cases hv
  · have e1 : g1 = g := by simpa [Value.ownBlock] using hv
    subst e1
    unfold Blk at hb
    rw [hb] at hg1
    simp at hg1
    exact hne hg1.2.symm

section
variable {P : Program} (w : World)

/-- append of a slice that may be nil. -/
theorem run_append_Q (base : Nat) (t ty e : TypeId) (i : TypeInfo) (z : Value) (size bytes : Nat) (ht : P.underlying t = some (.slice e)) (hi : P.info? e = some i) (hz : i.zero = some z)
    (hsize : i.size = size) (hby : i.bytes = bytes) (hzs : z.cells.size = size) (hs0 : 0 < size)
    (v : Value) (n : Nat) (xs : List Value) (hown : OwnS w base e size v n xs)
    (A : Option Addr) (m c : Nat) (news : List Value) (hl : news.length = m * size) (hnews : ∀ j u, news[j]? = some u → ∃ a, A = some a ∧ w.cell? (a.add j) = some u) (h1 : ∀ u ∈ news, u.oneCell' = true)
    (h63 : n + m ≤ maxLen) (hbytes : (n + m) * bytes ≤ 140737488355328) (hbase : base ≤ w.heap.size) :
    ∃ v' w', (Builtin.append_ #[t, t] ty #[v, .slice A m c]).run P w = .ok v' w' ∧ OwnS w' base e size v' (n + m) (xs ++ news) ∧ w.grownBy w' v.ownBlock ∧
      (v'.ownBlock = v.ownBlock ∨ v'.ownBlock = some w.heap.size) := by
  cases A with
  | some a =>
    refine run_append_S w base t ty e i z size bytes ht hi hz hsize hby hzs v n xs hown a m c news hl (fun j u hu => ?_) h1 h63 hbytes hbase
    obtain ⟨a', ha, hc⟩ := hnews j u hu
    cases ha
    exact hc
  | none =>
    have hn : news = [] := by
      cases news with
      | nil => rfl
      | cons u us =>
        obtain ⟨a, ha, _⟩ := hnews 0 u rfl
        cases ha
    subst hn
    have hm : m = 0 := by
      rcases Nat.eq_zero_or_pos m with h | h
      · exact h
      · have := Nat.mul_pos h hs0
        simp at hl
        omega
    subst hm
    rcases hown.2 with ⟨rfl, rfl⟩ | ⟨g, off, cap, cur, rfl, hbg, hg, hnc, hcm, hcs, htake⟩
    · refine ⟨.slice none 0 0, w, ?_, by simpa using hown, ⟨rfl, rfl, rfl, Nat.le_refl _, fun _ _ _ => rfl⟩, .inl rfl⟩
      simp [Builtin.append_, run_underlying ht, sizeOf, typeInfo, hi, Builtin.lenOf, Builtin.firstCells]
    · refine ⟨.slice (some ⟨g, off, none⟩) n cap, w, ?_, by simpa using hown, ⟨rfl, rfl, rfl, Nat.le_refl _, fun _ _ _ => rfl⟩, .inl rfl⟩
      simp [Builtin.append_, run_underlying ht, sizeOf, typeInfo, hi, Builtin.lenOf, Builtin.firstCells, hnc, storeCells]

theorem step_append_Q {ops : Array Oper} {o : Oper} {a : Act} {K : Act → World → Prop} {Q : Exit → Act → World → Prop} {E : Prop} (hgd : o.guard = none) (s x : Operand) (t : TypeId)
    (ho : o.op = .call { callee := .builtin .append, args := #[s, x], argTypes := #[t, t] })
    (base : Nat) (e : TypeId) (i : TypeInfo) (z : Value) (size bytes : Nat) (ht : P.underlying t = some (.slice e)) (hi : P.info? e = some i) (hz : i.zero = some z)
    (hsize : i.size = size) (hby : i.bytes = bytes) (hzs : z.cells.size = size) (hs0 : 0 < size)
    (v : Value) (n : Nat) (xs : List Value) (hs : a.eval s = v) (hown : OwnS w base e size v n xs)
    (A : Option Addr) (m c : Nat) (news : List Value) (hx : a.eval x = .slice A m c) (hl : news.length = m * size) (hnews : ∀ j u, news[j]? = some u → ∃ a, A = some a ∧ w.cell? (a.add j) = some u) (h1 : ∀ u ∈ news, u.oneCell' = true)
    (h63 : n + m ≤ maxLen) (hbytes : (n + m) * bytes ≤ 140737488355328) (hbase : base ≤ w.heap.size)
    (h : ∀ v' w', OwnS w' base e size v' (n + m) (xs ++ news) → w.grownBy w' v.ownBlock → (v'.ownBlock = v.ownBlock ∨ v'.ownBlock = some w.heap.size) → K (a.put o.dst v') w') :
    if Region.wanted o (yielded ops a.tmps) = true then Oper.wp P o a w K Q else E := by
  have hw : Region.wanted o (yielded ops a.tmps) = true := by simp [Region.wanted, hgd]
  rw [if_pos hw]
  obtain ⟨v', w', hr, h2, h3, h4⟩ := run_append_Q (P := P) w base t o.type e i z size bytes ht hi hz hsize hby hzs hs0 v n xs hown A m c news hl hnews h1 h63 hbytes hbase
  unfold Oper.wp execOp
  simp only [ho, resolve, invoke, builtin, Sem.run_bind, Sem.run_pure, Result.andThen_ok, List.map_toArray, List.map_cons, List.map_nil, hs, hx, hr]
  exact h v' w' h2 h3 h4
end

section
variable {P : Program} (w : World)
theorem wpList_append_Q {ops : Array Oper} {rest : List Oper} {o : Oper} {a : Act} {Q : Exit → Act → World → Prop} (hgd : o.guard = none) (s x : Operand) (t : TypeId)
    (ho : o.op = .call { callee := .builtin .append, args := #[s, x], argTypes := #[t, t] })
    (base : Nat) (e : TypeId) (i : TypeInfo) (z : Value) (size bytes : Nat) (ht : P.underlying t = some (.slice e)) (hi : P.info? e = some i) (hz : i.zero = some z)
    (hsize : i.size = size) (hby : i.bytes = bytes) (hzs : z.cells.size = size) (hs0 : 0 < size)
    (v : Value) (n : Nat) (xs : List Value) (hs : a.eval s = v) (hown : OwnS w base e size v n xs)
    (A : Option Addr) (m c : Nat) (news : List Value) (hx : a.eval x = .slice A m c) (hl : news.length = m * size) (hnews : ∀ j u, news[j]? = some u → ∃ a, A = some a ∧ w.cell? (a.add j) = some u) (h1 : ∀ u ∈ news, u.oneCell' = true)
    (h63 : n + m ≤ maxLen) (hbytes : (n + m) * bytes ≤ 140737488355328) (hbase : base ≤ w.heap.size)
    (h : ∀ v' w', OwnS w' base e size v' (n + m) (xs ++ news) → w.grownBy w' v.ownBlock → (v'.ownBlock = v.ownBlock ∨ v'.ownBlock = some w.heap.size) → wpList P ops Q rest (a.put o.dst v') w') : wpList P ops Q (o :: rest) a w :=
  wpList_plain hgd fun _ hK => by
    obtain ⟨v', w', hr, h2, h3, h4⟩ := run_append_Q (P := P) w base t o.type e i z size bytes ht hi hz hsize hby hzs hs0 v n xs hown A m c news hl hnews h1 h63 hbytes hbase
    unfold Oper.wp execOp
    simp only [ho, resolve, invoke, builtin, Sem.run_bind, Sem.run_pure, Result.andThen_ok, List.map_toArray, List.map_cons, List.map_nil, hs, hx, hr]
    exact hK _ _ (h v' w' h2 h3 h4)
end

end Go.Proofs.YtfkdkbekmimhoaaGreatDoor
/- Plain: trees. -/
namespace Go.Proofs.YtfkdkbekmimhoaaGreatDoor

/-- A tree. -/
inductive Tree where
  | node (k : Int) (t : ByteArray) (a e : Int) (kids : List Tree)

def Tree.kind : Tree → Int | .node k _ _ _ _ => k
def Tree.text : Tree → ByteArray | .node _ t _ _ _ => t
def Tree.at_ : Tree → Int | .node _ _ a _ _ => a
def Tree.end_ : Tree → Int | .node _ _ _ e _ => e
def Tree.kids : Tree → List Tree | .node _ _ _ _ l => l

mutual
def countM : Tree → Nat
  | .node _ _ _ _ kids => 1 + countsM kids
def countsM : List Tree → Nat
  | [] => 0
  | t :: ts => countM t + countsM ts
end

theorem countsM_take : ∀ (ts : List Tree) (i : Nat) (t : Tree), ts[i]? = some t → countsM (ts.take (i + 1)) = countsM (ts.take i) + countM t
  | [], i, t, h => by simp at h
  | u :: ts, 0, t, h => by
    simp at h
    subst h
    simp [countsM]
  | u :: ts, i + 1, t, h => by
    have := countsM_take ts i t (by simpa using h)
    simp only [List.take_succ_cons, countsM]
    omega

theorem countsM_le : ∀ (ts : List Tree) (i : Nat), countsM (ts.take i) ≤ countsM ts
  | [], i => by simp [countsM]
  | u :: ts, 0 => by simp [countsM]
  | u :: ts, i + 1 => by
    have := countsM_le ts i
    simp only [List.take_succ_cons, countsM]
    omega

theorem countM_eq (t : Tree) : countM t = 1 + countsM t.kids := by
  cases t
  rfl

theorem countM_pos (t : Tree) : 1 ≤ countM t := by
  rw [countM_eq]
  omega

theorem counts_len : ∀ (ts : List Tree), ts.length ≤ countsM ts
  | [] => by simp [countsM]
  | t :: ts => by
    have := counts_len ts
    have := countM_pos t
    simp only [List.length_cons, countsM]
    omega

/-- The cells of a node as one value. -/
def nodeV (t : Tree) (A : Option Addr) (c : Nat) : Value := .agg #[.int .i64 t.kind, .string t.text, .int .i64 t.at_, .int .i64 t.end_, .slice A t.kids.length c]

theorem countsM_mem {ts : List Tree} {i : Nat} {t : Tree} (h : ts[i]? = some t) : countM t ≤ countsM ts := by
  have h1 := countsM_take ts i t h
  have h2 := countsM_le ts (i + 1)
  omega
end Go.Proofs.YtfkdkbekmimhoaaGreatDoor
/- A tree of the call's own in memory: every row of kids lies in a block of which P holds. -/
namespace Go.Proofs.YtfkdkbekmimhoaaGreatDoor
open Go.RowKit

mutual
/-- The cells of a node, its kids in rows of the call's own. -/
def TreeOwn (w : World) (P : Nat → Prop) : Tree → List Value → Prop
  | .node k t a e kids, cs => ∃ A c vals, cs = [.int .i64 k, .string t, .int .i64 a, .int .i64 e, .slice A kids.length c] ∧ OwnS w 0 24 5 (.slice A kids.length c) kids.length (List.flatten vals) ∧ (∀ g, (Value.slice A kids.length c).ownBlock = some g → P g) ∧ TreesOwn w P kids vals
def TreesOwn (w : World) (P : Nat → Prop) : List Tree → List (List Value) → Prop
  | [], vals => vals = []
  | t :: ts, vals => ∃ v vs, vals = v :: vs ∧ TreeOwn w P t v ∧ TreesOwn w P ts vs
end

/-- What keeps the rows of nodes in blocks of which P holds. -/
def KeepsN (P : Nat → Prop) (w w' : World) : Prop := ∀ (g : Nat) (cs : Array Value), P g → w.heap[g]? = some (.cells cs 24 (0, 0)) → w'.heap[g]? = w.heap[g]?

theorem OwnS.typed {w : World} {base : Nat} {e : TypeId} {size : Nat} {v : Value} {n : Nat} {xs : List Value} (h : OwnS w base e size v n xs) {g : Nat} (hg : v.ownBlock = some g) : ∃ cs, w.heap[g]? = some (.cells cs e (0, 0)) := by
  rcases h.2 with ⟨rfl, _⟩ | ⟨g1, off1, cap1, cur1, rfl, _, hg1, _⟩
  · cases hg
  · have e1 : g1 = g := by simpa [Value.ownBlock] using hg
    subst e1
    exact ⟨_, hg1⟩

theorem OwnS.keepsN {P : Nat → Prop} {w w' : World} {base : Nat} {v : Value} {n : Nat} {xs : List Value} (h : OwnS w base 24 5 v n xs) (hP : ∀ g, v.ownBlock = some g → P g) (hk : KeepsN P w w') : OwnS w' base 24 5 v n xs :=
  h.of_block fun g hg => by
    obtain ⟨cs, hc⟩ := h.typed hg
    exact hk g cs (hP g hg) hc

mutual
theorem TreeOwn.keeps {P : Nat → Prop} {w w' : World} (hk : KeepsN P w w') : ∀ (t : Tree) (cs : List Value), TreeOwn w P t cs → TreeOwn w' P t cs
  | .node _ _ _ _ kids, _, h => by
    obtain ⟨A, c, vals, h1, h2, hP, h3⟩ := h
    exact ⟨A, c, vals, h1, h2.keepsN hP hk, hP, TreesOwn.keeps hk kids vals h3⟩
theorem TreesOwn.keeps {P : Nat → Prop} {w w' : World} (hk : KeepsN P w w') : ∀ (ts : List Tree) (vals : List (List Value)), TreesOwn w P ts vals → TreesOwn w' P ts vals
  | [], _, h => h
  | t :: ts, _, h => by
    obtain ⟨v, vs, h1, h2, h3⟩ := h
    exact ⟨v, vs, h1, TreeOwn.keeps hk t v h2, TreesOwn.keeps hk ts vs h3⟩
end

mutual
theorem TreeOwn.weak {P Q : Nat → Prop} {w : World} (hPQ : ∀ g, g < w.heap.size → P g → Q g) : ∀ (t : Tree) (cs : List Value), TreeOwn w P t cs → TreeOwn w Q t cs
  | .node _ _ _ _ kids, _, h => by
    obtain ⟨A, c, vals, h1, h2, hP, h3⟩ := h
    exact ⟨A, c, vals, h1, h2, fun g hg => hPQ g (h2.lt g hg).2 (hP g hg), TreesOwn.weak hPQ kids vals h3⟩
theorem TreesOwn.weak {P Q : Nat → Prop} {w : World} (hPQ : ∀ g, g < w.heap.size → P g → Q g) : ∀ (ts : List Tree) (vals : List (List Value)), TreesOwn w P ts vals → TreesOwn w Q ts vals
  | [], _, h => h
  | t :: ts, _, h => by
    obtain ⟨v, vs, h1, h2, h3⟩ := h
    exact ⟨v, vs, h1, TreeOwn.weak hPQ t v h2, TreesOwn.weak hPQ ts vs h3⟩
end

theorem KeepsN.refl (P : Nat → Prop) (w : World) : KeepsN P w w := fun _ _ _ _ => rfl
theorem KeepsN.of_below {P : Nat → Prop} {w w' : World} (hb : Below w.heap.size w w') : KeepsN P w w' := fun g _ _ h => hb.block g (Array.getElem?_eq_some_iff.1 h).1
theorem KeepsN.trans {P : Nat → Prop} {a b c : World} (h1 : KeepsN P a b) (h2 : KeepsN P b c) : KeepsN P a c := fun g cs hP h => by
  have e := h1 g cs hP h
  exact (h2 g cs hP (e.trans h)).trans e

theorem TreeOwn.len {P : Nat → Prop} {w : World} {t : Tree} {cs : List Value} (h : TreeOwn w P t cs) : cs.length = 5 := by
  cases t with
  | node k x a e kids =>
    obtain ⟨A, c, vals, rfl, _⟩ := h
    rfl

theorem TreesOwn.lens {P : Nat → Prop} {w : World} : ∀ {ts : List Tree} {vals : List (List Value)}, TreesOwn w P ts vals → vals.length = ts.length ∧ (List.flatten vals).length = ts.length * 5
  | [], vals, h => by
    have : vals = [] := h
    subst this
    exact ⟨rfl, rfl⟩
  | t :: ts, vals, h => by
    obtain ⟨v, vs, rfl, h1, h2⟩ := h
    have := TreesOwn.lens h2
    have := TreeOwn.len h1
    simp only [List.length_cons, List.flatten_cons, List.length_append]
    omega

theorem TreesOwn.snoc {P : Nat → Prop} {w : World} : ∀ {ts : List Tree} {vals : List (List Value)} {t : Tree} {v : List Value}, TreesOwn w P ts vals → TreeOwn w P t v → TreesOwn w P (ts ++ [t]) (vals ++ [v])
  | [], vals, t, v, h, ht => by
    have : vals = [] := h
    subst this
    exact ⟨v, [], rfl, ht, rfl⟩
  | x :: ts, vals, t, v, h, ht => by
    obtain ⟨v1, vs, rfl, h1, h2⟩ := h
    exact ⟨v1, vs ++ [v], rfl, h1, TreesOwn.snoc h2 ht⟩

/-- A row of trees of the call's own; none of their rows lies in its block. -/
def KidsOwn (w : World) (lo : Nat) (v : Value) (n : Nat) (ts : List Tree) : Prop :=
  ∃ vals, OwnS w lo 24 5 v n (List.flatten vals) ∧ TreesOwn w (fun g => lo ≤ g ∧ some g ≠ v.ownBlock) ts vals ∧ ts.length = n

theorem KidsOwn.keeps {w w' : World} {lo : Nat} {v : Value} {n : Nat} {ts : List Tree} (h : KidsOwn w lo v n ts) (hk : KeepsN (fun g => lo ≤ g) w w') : KidsOwn w' lo v n ts := by
  obtain ⟨vals, h1, h2, h3⟩ := h
  exact ⟨vals, h1.keepsN (fun g hg => (h1.lt g hg).1) hk, TreesOwn.keeps (fun g cs hP hc => hk g cs hP.1 hc) _ _ h2, h3⟩

theorem KidsOwn.nil (w : World) (lo : Nat) : KidsOwn w lo (.slice none 0 0) 0 [] := ⟨[], OwnS.nil _ _ _ _, rfl, rfl⟩

theorem KidsOwn.node {w : World} {lo : Nat} {A : Option Addr} {n c : Nat} {ts : List Tree} (h : KidsOwn w lo (.slice A n c) n ts) (k : Int) (t : ByteArray) (a e : Int) :
    TreeOwn w (fun g => lo ≤ g) (.node k t a e ts) [.int .i64 k, .string t, .int .i64 a, .int .i64 e, .slice A n c] := by
  obtain ⟨vals, h1, h2, rfl⟩ := h
  exact ⟨A, c, vals, rfl, h1.mono (Nat.zero_le _), fun g hg => (h1.lt g hg).1, TreesOwn.weak (fun g _ hg => hg.1) _ _ h2⟩

/-- append: one tree more. -/
theorem KidsOwn.push {w w1 : World} {lo : Nat} {v v' : Value} {n : Nat} {ts : List Tree} {t : Tree} {cs : List Value} {vals : List (List Value)}
    (h2 : TreesOwn w (fun g => lo ≤ g ∧ some g ≠ v.ownBlock) ts vals) (hn : ts.length = n) (ht : TreeOwn w (fun g => lo ≤ g ∧ some g ≠ v.ownBlock) t cs)
    (hown : OwnS w1 lo 24 5 v' (n + 1) (List.flatten vals ++ cs)) (hk : ∀ g, g < w.heap.size → some g ≠ v.ownBlock → w1.heap[g]? = w.heap[g]?) (hat : v'.ownBlock = v.ownBlock ∨ ∀ g, v'.ownBlock = some g → w.heap.size ≤ g) : KidsOwn w1 lo v' (n + 1) (ts ++ [t]) := by
  have hall := TreesOwn.snoc h2 ht
  have hke : KeepsN (fun g => lo ≤ g ∧ some g ≠ v.ownBlock) w w1 := fun g cs hP hc => hk g (Array.getElem?_eq_some_iff.1 hc).1 hP.2
  have hall2 : TreesOwn w (fun g => (lo ≤ g ∧ some g ≠ v.ownBlock) ∧ (lo ≤ g ∧ some g ≠ v'.ownBlock)) (ts ++ [t]) (vals ++ [cs]) := TreesOwn.weak (fun g hg hP => ⟨hP, hP.1, fun e => by
    rcases hat with h | h
    · exact hP.2 (e.trans h)
    · have := h g e.symm
      omega⟩) _ _ hall
  have hall3 := TreesOwn.keeps (w' := w1) (fun g cs hP hc => hke g cs hP.1 hc) _ _ hall2
  refine ⟨vals ++ [cs], ?_, TreesOwn.weak (fun g _ hP => hP.2) _ _ hall3, by simp [hn]⟩
  simpa using hown

end Go.Proofs.YtfkdkbekmimhoaaGreatDoor
/- A tree in memory that is only read. -/
namespace Go.Proofs.YtfkdkbekmimhoaaGreatDoor
open Go.RowKit

mutual
/-- The cells of a node; its kids' cells lie in blocks below B. -/
def TreeAt (w : World) (B : Nat) : Tree → List Value → Prop
  | .node k t a e kids, cs => ∃ A c, cs = [.int .i64 k, .string t, .int .i64 a, .int .i64 e, .slice A kids.length c] ∧ kids.length ≤ c ∧ KidsAt w B A 0 kids
def KidsAt (w : World) (B : Nat) (A : Option Addr) : Nat → List Tree → Prop
  | _, [] => True
  | i, t :: ts => (∃ b off vals, A = some ⟨b, off, none⟩ ∧ b < B ∧ (∀ j v, vals[j]? = some v → w.cell? ⟨b, off + i * 5 + j, none⟩ = some v) ∧ TreeAt w B t vals) ∧ KidsAt w B A (i + 1) ts
end

mutual
theorem TreeAt.below {w w' : World} {B B' : Nat} (hb : Below B' w w') (hB : B ≤ B') : ∀ (t : Tree) (cs : List Value), TreeAt w B t cs → TreeAt w' B t cs
  | .node _ _ _ _ kids, _, h => by
    obtain ⟨A, c, h1, hc, h2⟩ := h
    exact ⟨A, c, h1, hc, KidsAt.below hb hB kids A 0 h2⟩
theorem KidsAt.below {w w' : World} {B B' : Nat} (hb : Below B' w w') (hB : B ≤ B') : ∀ (ts : List Tree) (A : Option Addr) (i : Nat), KidsAt w B A i ts → KidsAt w' B A i ts
  | [], _, _, _ => trivial
  | t :: ts, A, i, h => by
    obtain ⟨⟨b, off, vals, h1, h2, h3, h4⟩, h5⟩ := h
    exact ⟨⟨b, off, vals, h1, h2, fun j v hj => (hb.cell (p := ⟨b, _, none⟩) (by show b < B'; omega)).trans (h3 j v hj), TreeAt.below hb hB t vals h4⟩, KidsAt.below hb hB ts A (i + 1) h5⟩
end

mutual
theorem TreeAt.mono {w : World} {B B' : Nat} (hB : B ≤ B') : ∀ (t : Tree) (cs : List Value), TreeAt w B t cs → TreeAt w B' t cs
  | .node _ _ _ _ kids, _, h => by
    obtain ⟨A, c, h1, hc, h2⟩ := h
    exact ⟨A, c, h1, hc, KidsAt.mono hB kids A 0 h2⟩
theorem KidsAt.mono {w : World} {B B' : Nat} (hB : B ≤ B') : ∀ (ts : List Tree) (A : Option Addr) (i : Nat), KidsAt w B A i ts → KidsAt w B' A i ts
  | [], _, _, _ => trivial
  | t :: ts, A, i, h => by
    obtain ⟨⟨b, off, vals, h1, h2, h3, h4⟩, h5⟩ := h
    exact ⟨⟨b, off, vals, h1, Nat.lt_of_lt_of_le h2 hB, h3, TreeAt.mono hB t vals h4⟩, KidsAt.mono hB ts A (i + 1) h5⟩
end

theorem flatten_get : ∀ (vals : List (List Value)), (∀ v ∈ vals, v.length = 5) → ∀ (i j : Nat) (v : List Value) (x : Value), vals[i]? = some v → v[j]? = some x → (List.flatten vals)[i * 5 + j]? = some x
  | [], _, i, j, v, x, h, _ => by simp at h
  | u :: vals, hl, 0, j, v, x, h, hx => by
    simp at h
    subst h
    have hj := (List.getElem?_eq_some_iff.1 hx).1
    simp only [List.flatten_cons, Nat.zero_mul, Nat.zero_add]
    rw [List.getElem?_append_left hj]
    exact hx
  | u :: vals, hl, i + 1, j, v, x, h, hx => by
    have hu := hl u (by simp)
    have := flatten_get vals (fun v hv => hl v (by simp [hv])) i j v x (by simpa using h) hx
    simp only [List.flatten_cons]
    rw [List.getElem?_append_right (by rw [hu, Nat.add_mul]; omega), hu]
    rw [show (i + 1) * 5 + j - 5 = i * 5 + j by rw [Nat.add_mul]; omega]
    exact this

theorem TreesOwn.lens5 {w : World} {P : Nat → Prop} : ∀ {ts : List Tree} {vals : List (List Value)}, TreesOwn w P ts vals → ∀ v ∈ vals, v.length = 5
  | [], vals, h, v, hv => by
    have : vals = [] := h
    subst this
    cases hv
  | t :: ts, vals, h, v, hv => by
    obtain ⟨v1, vs, rfl, h1, h2⟩ := h
    rcases List.mem_cons.1 hv with rfl | hv
    · exact TreeOwn.len h1
    · exact TreesOwn.lens5 h2 v hv


/-- What lies at an index of a row of nodes. -/
def CellsAt (w : World) (B : Nat) (A : Option Addr) (i : Nat) (vals : List Value) : Prop := ∃ b off, A = some ⟨b, off, none⟩ ∧ b < B ∧ ∀ j v, vals[j]? = some v → w.cell? ⟨b, off + i * 5 + j, none⟩ = some v

mutual
theorem TreeOwn.at_ {w : World} {P : Nat → Prop} : ∀ (t : Tree) (cs : List Value), TreeOwn w P t cs → TreeAt w w.heap.size t cs
  | .node _ _ _ _ kids, _, h => by
    obtain ⟨A, c, vals, h1, h2, h3, h4⟩ := h
    refine ⟨A, c, h1, (by obtain ⟨A', c', h5, h6, _⟩ := h2.shape; cases h5; exact h6), TreesOwn.at_ kids vals A 0 h4 (fun j v hv => ?_)⟩
    have hl := TreesOwn.lens h4
    have hj := (List.getElem?_eq_some_iff.1 hv).1
    obtain ⟨g, off, cap, hv', _, _, _, hlt, hc⟩ := h2.form (by omega)
    cases hv'
    refine ⟨g, off, rfl, hlt, fun q x hx => ?_⟩
    rw [Nat.zero_add, Nat.add_assoc]
    exact hc _ _ (flatten_get vals (TreesOwn.lens5 h4) j q v x hv hx)
theorem TreesOwn.at_ {w : World} {P : Nat → Prop} : ∀ (ts : List Tree) (vals : List (List Value)) (A : Option Addr) (i : Nat), TreesOwn w P ts vals → (∀ j v, vals[j]? = some v → CellsAt w w.heap.size A (i + j) v) → KidsAt w w.heap.size A i ts
  | [], _, _, _, _, _ => trivial
  | t :: ts, vals, A, i, h, hc => by
    obtain ⟨v1, vs, rfl, h1, h2⟩ := h
    obtain ⟨b, off, e1, e2, e3⟩ := hc 0 v1 rfl
    refine ⟨⟨b, off, v1, e1, e2, e3, TreeOwn.at_ t v1 h1⟩, TreesOwn.at_ ts vs A (i + 1) h2 (fun j v hv => ?_)⟩
    have := hc (j + 1) v (by simpa using hv)
    rw [show i + 1 + j = i + (j + 1) by omega]
    exact this
end

theorem KidsAt.get {w : World} {B : Nat} {A : Option Addr} : ∀ {ts : List Tree} {i : Nat}, KidsAt w B A i ts → ∀ (j : Nat) (t : Tree), ts[j]? = some t → ∃ vals, CellsAt w B A (i + j) vals ∧ TreeAt w B t vals
  | [], _, _, j, t, ht => by simp at ht
  | u :: ts, i, h, 0, t, ht => by
    simp at ht
    subst ht
    obtain ⟨⟨b, off, vals, h1, h2, h3, h4⟩, -⟩ := h
    exact ⟨vals, ⟨b, off, h1, h2, h3⟩, h4⟩
  | u :: ts, i, h, j + 1, t, ht => by
    obtain ⟨vals, h1, h2⟩ := KidsAt.get h.2 j t (by simpa using ht)
    exact ⟨vals, by rw [show i + (j + 1) = i + 1 + j by omega]; exact h1, h2⟩

theorem TreeAt.five {w : World} {B : Nat} {t : Tree} {cs : List Value} (h : TreeAt w B t cs) : ∃ A c, cs = [.int .i64 t.kind, .string t.text, .int .i64 t.at_, .int .i64 t.end_, .slice A t.kids.length c] ∧ KidsAt w B A 0 t.kids := by
  cases t
  obtain ⟨A, c, h1, _, h2⟩ := h
  exact ⟨A, c, h1, h2⟩

/-- The capacity of a node's kids. -/
theorem TreeAt.cap {w : World} {B : Nat} {t : Tree} {k : Int} {x : ByteArray} {a z : Int} {A : Option Addr} {n c : Nat} (h : TreeAt w B t [.int .i64 k, .string x, .int .i64 a, .int .i64 z, .slice A n c]) : t.kids.length ≤ c := by
  cases t
  obtain ⟨A', c', h1, h2, _⟩ := h
  simp only [List.cons.injEq, Value.slice.injEq, and_true] at h1
  obtain ⟨_, _, _, _, _, _, rfl⟩ := h1
  exact h2

end Go.Proofs.YtfkdkbekmimhoaaGreatDoor
/- A region that draws its order, walked in the order of the text: the soft operations (they only yield a value, in every world that meets S) and the hard ones (each comes up alone); the operations of 'ex' wait for all soft ones, so S need not hold behind them. Turned from the library's OrdersHeld. No program is named here. -/
namespace Go.Proofs.YtfkdkbekmimhoaaGreatDoor

section
variable {P : Program} {ops : Array Oper} {Q : Exit → Act → World → Prop} {md : Region.Mode} {S : World → Prop} {ex : List Nat}

/-- Whatever order is picked from here on, and S holds behind every operation that is carried out, but those of 'ex'. -/
def wpAnyT (P : Program) (md : Region.Mode) (ops : Array Oper) (Q : Exit → Act → World → Prop) (S : World → Prop) (ex : List Nat) : Nat → Array Bool → Act → World → Prop
  | 0, listed, a, w => Region.ready md ops listed = [] ∧ Q .normal a w
  | fuel + 1, listed, a, w =>
    (Region.ready md ops listed = [] → Q .normal a w) ∧
    ∀ i ∈ Region.ready md ops listed, wpOp P ops Q i (fun a' w' => (i ∉ ex → S w') ∧ wpAnyT P md ops Q S ex fuel (listed.setIfInBounds i true) a' w') a w

theorem wpAny_of_T : ∀ (fuel : Nat) (listed : Array Bool) (a : Act) (w : World), wpAnyT P md ops Q S ex fuel listed a w → wpAny P md ops Q fuel listed a w
  | 0, _, _, _, h => h
  | fuel + 1, _, _, _, h => ⟨h.1, fun i hi => wpOp_mono (fun a' w' h' => wpAny_of_T fuel _ a' w' h'.2) (h.2 i hi)⟩

theorem wpAnyT_first {i : Nat} {oi : Oper} {v : Value} (hi : ops[i]? = some oi) (hsel : ∀ (j : Nat) (o : Oper) cs b, ops[j]? = some o → o.op ≠ .select cs b)
    (hex : ∀ j ∈ ex, Region.waitsFor md ops j i = true)
    (hQ : ∀ c a w, Q (.panic c) (a.put oi.dst v) w → Q (.panic c) a w) :
    ∀ (fuel : Nat) (listed : Array Bool) (a : Act) (w : World),
      (∀ j oj, ops[j]? = some oj → j ≠ i → listed.getD j true = false → (∀ e ∈ oj.after, Region.binds md e = true → e.on ≠ i) → oi.apart ops oj = true) →
      i ∈ Region.ready md ops listed → YieldsIf P ops S oi v a → S w →
      wpAnyT P md ops Q S ex fuel (listed.setIfInBounds i true) (a.put oi.dst v) w → wpAnyT P md ops Q S ex (fuel + 1) listed a w := by
  intro fuel
  induction fuel with
  | zero =>
    intro listed a w _ hr hy hS H
    refine ⟨fun h => (by rw [h] at hr; cases hr), fun j hj => ?_⟩
    by_cases hji : j = i
    · subst hji; exact hy.wpOp hi hS ⟨fun _ => hS, H⟩
    · have := ready_mono hj hji
      rw [H.1] at this
      cases this
  | succ fuel ih =>
    intro listed a w hfree hr hy hS H
    refine ⟨fun h => (by rw [h] at hr; cases hr), fun j hj => ?_⟩
    by_cases hji : j = i
    · subst hji; exact hy.wpOp hi hS ⟨fun _ => hS, H⟩
    · have h1 := H.2 j (ready_mono hj hji)
      obtain ⟨hjun, oj, hoj, hall⟩ := mem_ready.1 hj
      have hnot : ∀ e ∈ oj.after, Region.binds md e = true → e.on ≠ i := fun e he hb heq => by
        have h1 := hall e he hb
        have h0 := (mem_ready.1 hr).1
        rw [heq] at h1
        rcases Nat.lt_or_ge i listed.size with h' | h'
        · simp [h'] at h0 h1; rw [h0] at h1; cases h1
        · simp [Array.getElem?_eq_none h'] at h1
      have hjex : j ∉ ex := fun hm => by
        obtain ⟨oj', hj', e, he, hb, hon⟩ := Region.waitsFor_spec (hex j hm)
        rw [hoj] at hj'
        cases hj'
        exact hnot e he hb hon
      have h2 := wpOp_putIf hoj (hfree j oj hoj hji hjun hnot) (fun cs b => hsel i oi cs b hi) (fun cs b => hsel j oj cs b hoj) hQ hy h1
      have hfree' : ∀ k ok, ops[k]? = some ok → k ≠ i → (listed.setIfInBounds j true).getD k true = false →
          (∀ e ∈ ok.after, Region.binds md e = true → e.on ≠ i) → oi.apart ops ok = true := fun k ok hk hki hun hno => by
        refine hfree k ok hk hki ?_ hno
        by_cases hjk : j = k
        · subst hjk; exact hjun
        · rw [getD_set_ne true hjk] at hun; exact hun
      refine wpOp_mono (fun a' w' h3 => ⟨h3.2.1, ih (listed.setIfInBounds j true) a' w' hfree' (ready_mono hr (Ne.symm hji)) h3.1 (h3.2.1 hjex) ?_⟩) h2
      rw [Array.setIfInBounds_comm _ _ hji]
      exact h3.2.2

/-- The walk in the order of the text. -/
def wpHS (P : Program) (ops : Array Oper) (Q : Exit → Act → World → Prop) (S : World → Prop) (ex : List Nat) : Nat → List Bool → List Oper → Act → World → Prop
  | _, _, [], a, w => Q .normal a w
  | _, [], _ :: _, _, _ => False
  | k, true :: ss, o :: rest, a, w => ∃ v, YieldsIf P ops S o v a ∧ S w ∧ wpHS P ops Q S ex (k + 1) ss rest (a.put o.dst v) w
  | k, false :: ss, o :: rest, a, w => o.guard = none ∧ o.wp P a w (fun a' w' => (ex.contains k = false → S w') ∧ wpHS P ops Q S ex (k + 1) ss rest a' w') Q

/-- May the operations come up so? -/
def heldFrom (md : Region.Mode) (ops : Array Oper) (ex : List Nat) : Nat → List Bool → Array Bool → Bool
  | _, [], listed => (Region.ready md ops listed).isEmpty
  | k, true :: ss, listed => Region.free md ops listed k && (Region.ready md ops listed).contains k && ex.all (fun j => Region.waitsFor md ops j k) && heldFrom md ops ex (k + 1) ss (listed.setIfInBounds k true)
  | k, false :: ss, listed => (Region.ready md ops listed == [k]) && heldFrom md ops ex (k + 1) ss (listed.setIfInBounds k true)

theorem wpAnyT_of_HS (hs : Region.noSelect ops = true) (hQ : ∀ c a b w, Q (.panic c) a w → Q (.panic c) b w) : ∀ (l : List Oper) (ss : List Bool) (k : Nat) (listed : Array Bool) (a : Act) (w : World), (∀ j, l[j]? = ops[k + j]?) → ss.length = l.length →
    heldFrom md ops ex k ss listed = true → wpHS P ops Q S ex k ss l a w → wpAnyT P md ops Q S ex l.length listed a w := by
  intro l
  induction l with
  | nil =>
    intro ss k listed a w hl hss hB h
    have : ss = [] := List.eq_nil_of_length_eq_zero hss
    subst this
    exact ⟨by simpa [heldFrom] using hB, by simpa [wpHS] using h⟩
  | cons o rest ih =>
    intro ss k listed a w hl hss hB h
    have hok : ops[k]? = some o := by have := hl 0; simpa using this.symm
    have hl' : ∀ j, rest[j]? = ops[k + 1 + j]? := fun j => by
      have := hl (j + 1)
      rw [List.getElem?_cons_succ] at this
      rw [this, Nat.add_assoc, Nat.add_comm 1 j]
    cases ss with
    | nil => simp at hss
    | cons s ss =>
      have hss' : ss.length = rest.length := by simpa using hss
      cases s with
      | true =>
        simp only [heldFrom, Bool.and_eq_true] at hB
        obtain ⟨⟨⟨h1, h2⟩, h3⟩, h4⟩ := hB
        obtain ⟨v, hy, hS, h5⟩ := h
        refine wpAnyT_first hok (Region.noSelect_spec hs) (fun j hj => ?_) (fun c a w hq => hQ c _ _ w hq) rest.length listed a w (Region.free_spec hok h1) (by simpa using h2) hy hS (ih ss (k + 1) _ _ w hl' hss' h4 h5)
        exact List.all_eq_true.1 h3 j hj
      | false =>
        simp only [heldFrom, Bool.and_eq_true, beq_iff_eq] at hB
        obtain ⟨h1, h2⟩ := hB
        obtain ⟨hg, h5⟩ := h
        refine ⟨fun h0 => (by rw [h0] at h1; cases h1), fun i hi => ?_⟩
        rw [h1] at hi
        simp at hi
        subst hi
        have hw : Region.wanted o (yielded ops a.tmps) = true := by simp [Region.wanted, hg]
        unfold wpOp
        simp only [hok, hw, if_true]
        refine .inl (Oper.wp_mono (fun a' w' h6 => ⟨fun hn => h6.1 (by simpa using hn), ih ss (i + 1) _ a' w' hl' hss' h2 h6.2⟩) h5)

/-- The beginning. -/
theorem wp_region_HS {id : Nat} {a : Act} {w : World} {l : List Oper} (S : World → Prop) (ex : List Nat) (ss : List Bool) (hm : P.follows .mixedOrders = true) (hs : Region.noSelect l.toArray = true)
    (hl : ss.length = l.length) (hB : heldFrom .any l.toArray ex 0 ss (Array.replicate l.length false) = true) (h : wpHS P l.toArray (NoPanic Q) S ex 0 ss l a w.drew) : (Code.region id l.toArray true).wp P Q a w := by
  refine wp_region_noPanic (wp_region_any hm (wpAny_of_T (S := S) (ex := ex) _ _ _ _ ?_))
  have := wpAnyT_of_HS (P := P) (S := S) (md := .any) hs (Q := NoPanic Q) (fun c a b w hq => (hq : False).elim) l ss 0 (Array.replicate l.length false) a w.drew (fun j => by simp) hl hB h
  simpa using this

theorem wpHS_nil {k : Nat} {ss : List Bool} {a : Act} {w : World} (h : Q .normal a w) : wpHS P ops (NoPanic Q) S ex k ss [] a w := by
  cases ss <;> exact h

theorem wpHS_soft {k : Nat} {ss : List Bool} {o : Oper} {rest : List Oper} {a : Act} {w : World} {v : Value} (hg : o.guard = none) (hS : S w) (hy : ∀ w', S w' → (execOp a.eval o).run P w' = .ok (.value v) w')
    (h : wpHS P ops Q S ex (k + 1) ss rest (a.put o.dst v) w) : wpHS P ops Q S ex k (true :: ss) (o :: rest) a w :=
  ⟨v, .inl ⟨by simp [Region.wanted, hg], hy⟩, hS, h⟩

/-- A hard operation that is run. -/
theorem wpHS_run {k : Nat} {ss : List Bool} {o : Oper} {rest : List Oper} {a : Act} {w w' : World} {v : Value} (hg : o.guard = none) (hr : (execOp a.eval o).run P w = .ok (.value v) w') (hS : ex.contains k = false → S w')
    (h : wpHS P ops Q S ex (k + 1) ss rest (a.put o.dst v) w') : wpHS P ops Q S ex k (false :: ss) (o :: rest) a w :=
  ⟨hg, by unfold Oper.wp; rw [hr]; exact ⟨hS, h⟩⟩

theorem wpHS_skip {k : Nat} {ss : List Bool} {o : Oper} {rest : List Oper} {a : Act} {w w' : World} (hg : o.guard = none) (hr : (execOp a.eval o).run P w = .ok .skip w') (hS : ex.contains k = false → S w')
    (h : wpHS P ops Q S ex (k + 1) ss rest (a.put o.dst undef) w') : wpHS P ops Q S ex k (false :: ss) (o :: rest) a w :=
  ⟨hg, by unfold Oper.wp; rw [hr]; exact ⟨hS, h⟩⟩

/-- A hard operation by its law. -/
theorem wpHS_law {k : Nat} {ss : List Bool} {o : Oper} {rest : List Oper} {a : Act} {w : World} (hg : o.guard = none)
    (h : o.wp P a w (fun a' w' => (ex.contains k = false → S w') ∧ wpHS P ops Q S ex (k + 1) ss rest a' w') Q) : wpHS P ops Q S ex k (false :: ss) (o :: rest) a w := ⟨hg, h⟩

end
end Go.Proofs.YtfkdkbekmimhoaaGreatDoor
/- The walk of a region that draws its order (XHeld), where operations are guarded. No program is named here. -/
namespace Go.Proofs.YtfkdkbekmimhoaaGreatDoor

section
variable {P : Program} {ops : Array Oper} {Q : Exit → Act → World → Prop} {md : Region.Mode} {S : World → Prop} {ex : List Nat}

/-- The walk in the order of the text. -/
def wpHG (P : Program) (ops : Array Oper) (Q : Exit → Act → World → Prop) (S : World → Prop) (ex : List Nat) : Nat → List Bool → List Oper → Act → World → Prop
  | _, _, [], a, w => Q .normal a w
  | _, [], _ :: _, _, _ => False
  | k, true :: ss, o :: rest, a, w => ∃ v, YieldsIf P ops S o v a ∧ S w ∧ wpHG P ops Q S ex (k + 1) ss rest (a.put o.dst v) w
  | k, false :: ss, o :: rest, a, w => Region.wanted o (yielded ops a.tmps) = true ∧ o.wp P a w (fun a' w' => (ex.contains k = false → S w') ∧ wpHG P ops Q S ex (k + 1) ss rest a' w') Q

theorem wpAnyT_of_HG (hs : Region.noSelect ops = true) (hQ : ∀ c a b w, Q (.panic c) a w → Q (.panic c) b w) : ∀ (l : List Oper) (ss : List Bool) (k : Nat) (listed : Array Bool) (a : Act) (w : World), (∀ j, l[j]? = ops[k + j]?) → ss.length = l.length →
    heldFrom md ops ex k ss listed = true → wpHG P ops Q S ex k ss l a w → wpAnyT P md ops Q S ex l.length listed a w := by
  intro l
  induction l with
  | nil =>
    intro ss k listed a w hl hss hB h
    have : ss = [] := List.eq_nil_of_length_eq_zero hss
    subst this
    exact ⟨by simpa [heldFrom] using hB, by simpa [wpHG] using h⟩
  | cons o rest ih =>
    intro ss k listed a w hl hss hB h
    have hok : ops[k]? = some o := by have := hl 0; simpa using this.symm
    have hl' : ∀ j, rest[j]? = ops[k + 1 + j]? := fun j => by
      have := hl (j + 1)
      rw [List.getElem?_cons_succ] at this
      rw [this, Nat.add_assoc, Nat.add_comm 1 j]
    cases ss with
    | nil => simp at hss
    | cons s ss =>
      have hss' : ss.length = rest.length := by simpa using hss
      cases s with
      | true =>
        simp only [heldFrom, Bool.and_eq_true] at hB
        obtain ⟨⟨⟨h1, h2⟩, h3⟩, h4⟩ := hB
        obtain ⟨v, hy, hS, h5⟩ := h
        refine wpAnyT_first hok (Region.noSelect_spec hs) (fun j hj => ?_) (fun c a w hq => hQ c _ _ w hq) rest.length listed a w (Region.free_spec hok h1) (by simpa using h2) hy hS (ih ss (k + 1) _ _ w hl' hss' h4 h5)
        exact List.all_eq_true.1 h3 j hj
      | false =>
        simp only [heldFrom, Bool.and_eq_true, beq_iff_eq] at hB
        obtain ⟨h1, h2⟩ := hB
        obtain ⟨hg, h5⟩ := h
        refine ⟨fun h0 => (by rw [h0] at h1; cases h1), fun i hi => ?_⟩
        rw [h1] at hi
        simp at hi
        subst hi
        unfold wpOp
        simp only [hok, hg, if_true]
        refine .inl (Oper.wp_mono (fun a' w' h6 => ⟨fun hn => h6.1 (by simpa using hn), ih ss (i + 1) _ a' w' hl' hss' h2 h6.2⟩) h5)

/-- The beginning. -/
theorem wp_region_HG {id : Nat} {a : Act} {w : World} {l : List Oper} (S : World → Prop) (ex : List Nat) (ss : List Bool) (hm : P.follows .mixedOrders = true) (hs : Region.noSelect l.toArray = true)
    (hl : ss.length = l.length) (hB : heldFrom .any l.toArray ex 0 ss (Array.replicate l.length false) = true) (h : wpHG P l.toArray (NoPanic Q) S ex 0 ss l a w.drew) : (Code.region id l.toArray true).wp P Q a w := by
  refine wp_region_noPanic (wp_region_any hm (wpAny_of_T (S := S) (ex := ex) _ _ _ _ ?_))
  have := wpAnyT_of_HG (P := P) (S := S) (md := .any) hs (Q := NoPanic Q) (fun c a b w hq => (hq : False).elim) l ss 0 (Array.replicate l.length false) a w.drew (fun j => by simp) hl hB h
  simpa using this

theorem wpHG_nil {k : Nat} {ss : List Bool} {a : Act} {w : World} (h : Q .normal a w) : wpHG P ops (NoPanic Q) S ex k ss [] a w := by
  cases ss <;> exact h

theorem wpHG_soft {k : Nat} {ss : List Bool} {o : Oper} {rest : List Oper} {a : Act} {w : World} {v : Value} (hg : Region.wanted o (yielded ops a.tmps) = true) (hS : S w) (hy : ∀ w', S w' → (execOp a.eval o).run P w' = .ok (.value v) w')
    (h : wpHG P ops Q S ex (k + 1) ss rest (a.put o.dst v) w) : wpHG P ops Q S ex k (true :: ss) (o :: rest) a w :=
  ⟨v, .inl ⟨hg, hy⟩, hS, h⟩

/-- An operation whose guard says no. -/
theorem wpHG_off {k : Nat} {ss : List Bool} {o : Oper} {rest : List Oper} {a : Act} {w : World} (hg : Region.wanted o (yielded ops a.tmps) = false) (hS : S w)
    (h : wpHG P ops Q S ex (k + 1) ss rest (a.put o.dst undef) w) : wpHG P ops Q S ex k (true :: ss) (o :: rest) a w :=
  ⟨undef, .inr ⟨hg, rfl⟩, hS, h⟩

/-- A hard operation by its law. -/
theorem wpHG_law {k : Nat} {ss : List Bool} {o : Oper} {rest : List Oper} {a : Act} {w : World} (hg : Region.wanted o (yielded ops a.tmps) = true)
    (h : o.wp P a w (fun a' w' => (ex.contains k = false → S w') ∧ wpHG P ops Q S ex (k + 1) ss rest a' w') Q) : wpHG P ops Q S ex k (false :: ss) (o :: rest) a w := ⟨hg, h⟩

end
end Go.Proofs.YtfkdkbekmimhoaaGreatDoor
/- Trees in memory: small things. -/
namespace Go.Proofs.YtfkdkbekmimhoaaGreatDoor
open Go.RowKit

theorem Blk.five {w : World} {g : Nat} {ty : TypeId} {a b c d e : Value} (h : Blk w g ty #[a, b, c, d, e]) :
    (w.cell? ⟨g, 0, none⟩ = some a ∧ w.cell? ⟨g, 1, none⟩ = some b ∧ w.cell? ⟨g, 2, none⟩ = some c ∧ w.cell? ⟨g, 3, none⟩ = some d ∧ w.cell? ⟨g, 4, none⟩ = some e) ∧
    (w.frozen? ⟨g, 0, none⟩ = false ∧ w.frozen? ⟨g, 1, none⟩ = false ∧ w.frozen? ⟨g, 2, none⟩ = false ∧ w.frozen? ⟨g, 3, none⟩ = false ∧ w.frozen? ⟨g, 4, none⟩ = false) :=
  ⟨⟨h.cell 0, h.cell 1, h.cell 2, h.cell 3, h.cell 4⟩, h.frozen 0, h.frozen 1, h.frozen 2, h.frozen 3, h.frozen 4⟩

def set5 (w : World) (g : Nat) (a b c d e : Value) : World := ((((w.setCell ⟨g, 0, none⟩ a).setCell ⟨g, 1, none⟩ b).setCell ⟨g, 2, none⟩ c).setCell ⟨g, 3, none⟩ d).setCell ⟨g, 4, none⟩ e

theorem node_info : (Tryz.prog.info? 24).map (fun i => (i.zero, i.size, i.bytes)) = some (some (.agg #[.int .i64 0, .string ⟨#[]⟩, .int .i64 0, .int .i64 0, .slice none 0 0]), 5, 64) := by kernel_rfl

theorem KidsOwn.pushed {w w1 : World} {lo : Nat} {v v' : Value} {n : Nat} {ts : List Tree} {t : Tree} {cs : List Value} {vals : List (List Value)} {o : Obj}
    (h2 : TreesOwn w (fun g => lo ≤ g ∧ some g ≠ v.ownBlock) ts vals) (hn : ts.length = n) (ht : TreeOwn w (fun g => lo ≤ g ∧ some g ≠ v.ownBlock) t cs)
    (hown : OwnS w1 lo 24 5 v' (n + 1) (List.flatten vals ++ cs)) (hgrow : (w.alloc o).grownBy w1 v.ownBlock) (hat : v'.ownBlock = v.ownBlock ∨ v'.ownBlock = some (w.alloc o).heap.size) : KidsOwn w1 lo v' (n + 1) (ts ++ [t]) := by
  refine KidsOwn.push h2 hn ht hown (fun g hg hne => (hgrow.block g (by simp; omega) hne).trans (Below.heap_alloc w o g hg)) ?_
  rcases hat with h | h
  · exact .inl h
  · exact .inr fun g hg => by
      rw [h] at hg
      simp at hg
      omega

theorem news_five (w : World) (g : Nat) (a b c d e : Value) (h0 : w.cell? ⟨g, 0, none⟩ = some a) (h1 : w.cell? ⟨g, 1, none⟩ = some b) (h2 : w.cell? ⟨g, 2, none⟩ = some c) (h3 : w.cell? ⟨g, 3, none⟩ = some d) (h4 : w.cell? ⟨g, 4, none⟩ = some e) :
    ∀ j v, [a, b, c, d, e][j]? = some v → w.cell? ((⟨g, 0, none⟩ : Addr).add j) = some v := by
  intro j v hj
  match j, hj with
  | 0, hj => simp at hj; subst hj; exact h0
  | 1, hj => simp at hj; subst hj; exact h1
  | 2, hj => simp at hj; subst hj; exact h2
  | 3, hj => simp at hj; subst hj; exact h3
  | 4, hj => simp at hj; subst hj; exact h4
  | j + 5, hj => simp at hj

/-- The cells of a node as one value. -/
def cellsV (t : Tree) (A : Option Addr) (c : Nat) : List Value := [.int .i64 t.kind, .string t.text, .int .i64 t.at_, .int .i64 t.end_, .slice A t.kids.length c]
/-- A tree of the call's own is returned. -/
def OwnRes (w : World) (t : Tree) (e : Ending) (w' : World) : Prop := ∃ A c, e = .returned (nodeV t A c) ∧ TreeOwn w' (fun g => w.heap.size ≤ g) t (cellsV t A c) ∧ Below w.heap.size w w'
theorem keeps_set {lo g0 : Nat} (h : g0 < lo) (w : World) (off : Nat) (v : Value) : KeepsN (fun g => lo ≤ g) w (w.setCell ⟨g0, off, none⟩ v) := fun g cs hP _ => by
  exact Below.heap_setCell w ⟨g0, off, none⟩ v g (by show g ≠ g0; omega)
end Go.Proofs.YtfkdkbekmimhoaaGreatDoor
/- templates.renamed without names, templates.copied: walked. -/
namespace Go.Proofs.YtfkdkbekmimhoaaGreatDoor
open Go.RowKit

theorem str_info1 : (Tryz.prog.info? 9).map (fun i => (i.zero, i.size, i.bytes)) = some (some (.string ⟨#[]⟩), 1, 16) := by kernel_rfl
theorem run_checkKey_str (b : Bool) (n : Nat) (s : ByteArray) (w : World) : (Instr.checkKey b (n + 1) 9 (.string s)).run Tryz.prog w = .ok () w := by
  simp [Instr.checkKey, run_underlying Tryz.underlying9]
theorem run_lookup_nil (s : ByteArray) (w : World) : (Instr.lookup 134 (.map none) (.string s) true).run Tryz.prog w = .ok (.tuple #[.string ⟨#[]⟩, .bool false]) w := by
  obtain ⟨i0, hi0, hz0, hz1, hz2⟩ := info_parts str_info1
  have hf : (Instr.findKey 9 (.string s) []).run Tryz.prog w = .ok none w := by
    simp [Instr.findKey, run_underlying Tryz.underlying9, Instr.findNow]
  have hzv : (zeroValue 9).run Tryz.prog w = .ok (.string ⟨#[]⟩) w := by simp [zeroValue, typeInfo, hi0, hz0]
  simp [Instr.lookup, run_underlying Tryz.underlying134, run_checkKey_str, hf, hzv]

set_option maxHeartbeats 4000000 in
set_option maxRecDepth 100000 in
theorem renamed_any : ∀ (m : Nat) (t : Tree) (A : Option Addr) (c : Nat) (w : World), countM t ≤ m → m ≤ 1000000 → KidsAt w w.heap.size A 0 t.kids →
    Calls Tryz.prog 54 #[nodeV t A c, .map none] w (OwnRes w t) := by
  obtain ⟨i0, hi0, hz0, hz1, hz2⟩ := info_parts node_info
  intro m
  induction m with
  | zero =>
    intro t A c w h
    have := countM_pos t
    omega
  | succ m ih =>
    intro t A c w hm hbig hk
    have hce := countM_eq t
    obtain ⟨k, x, a, z, kids⟩ := t
    obtain ⟨n, hn⟩ : ∃ q, kids.length = q := ⟨_, rfl⟩
    have hv : nodeV (.node k x a z kids) A c = .agg #[.int .i64 k, .string x, .int .i64 a, .int .i64 z, .slice A n c] := by rw [← hn]; rfl
    rw [hv]
    have hcl := counts_len kids
    have hk : KidsAt w w.heap.size A 0 kids := hk
    have hce : countM (.node k x a z kids) = 1 + countsM kids := hce
    have HN := Lib.hid hn
    have HIH := Lib.hid ih
    have HM : Hid (countsM kids ≤ m ∧ m ≤ 1000000) := Lib.hid ⟨by omega, by omega⟩
    have hnb : n ≤ 1000000 := by omega
    obtain ⟨W1, hW1⟩ : ∃ W1, w.alloc (.cells #[.int .i64 k, .string x, .int .i64 a, .int .i64 z, .slice A n c] 24) = W1 := ⟨_, rfl⟩
    have hR1 : Blk W1 w.heap.size 24 #[.int .i64 k, .string x, .int .i64 a, .int .i64 z, .slice A n c] := by rw [← hW1]; exact Blk.new w _ _
    have hs1 : W1.heap.size = w.heap.size + 1 := by rw [← hW1]; simp
    have hb1 : Below w.heap.size w W1 := by rw [← hW1]; exact below_alloc _ _
    obtain ⟨W2, hW2⟩ : ∃ W2, W1.alloc (.cells #[.int .i64 0, .string ⟨#[]⟩, .int .i64 0, .int .i64 0, .slice none 0 0] 24) = W2 := ⟨_, rfl⟩
    have hR2 : Blk W2 W1.heap.size 24 #[.int .i64 0, .string ⟨#[]⟩, .int .i64 0, .int .i64 0, .slice none 0 0] := by rw [← hW2]; exact Blk.new W1 _ _
    have hs2 : W2.heap.size = w.heap.size + 2 := by rw [← hW2]; simp [hs1]
    have hb2 : Below w.heap.size w W2 := by rw [← hW2]; exact hb1.alloc (by omega) _
    have hR12 : Blk W2 w.heap.size 24 #[.int .i64 k, .string x, .int .i64 a, .int .i64 z, .slice A n c] := by rw [← hW2]; exact hR1.alloc _
    obtain ⟨g1, hg1⟩ : ∃ g1, W1.heap.size = g1 := ⟨_, rfl⟩
    rw [hg1] at hR2 hs1
    have HR1 := Lib.hid hR12
    have HR2 := Lib.hid hR2
    have HB2 := Lib.hid hb2
    have HS2 : Hid (W2.heap.size = w.heap.size + 2 ∧ g1 = w.heap.size + 1) := Lib.hid ⟨hs2, hs1⟩
    have HK2 := Lib.hid (KidsAt.below hb2 (Nat.le_refl _) _ _ _ hk)
    have HLK := Lib.hid (run_lookup_nil x)
    obtain ⟨⟨t0, t1, t2, t3, t4⟩, -⟩ := hR12.five
    clear hk hce ih hm hbig hn hcl hR1 hs1 hs2 hb1 hR2 hb2 hR12 hv
    go_enter Tryz.func54, Tryz.ntmps54
    go_wp2_with (first | rw [hW1] | rw [hW2] | rw [hg1] | rw [HLK.out])
    clear hW1 hW2 hg1 t0 t1 t2 t3 t4 HLK
    go_loopg [7, 28] n (fun gk s7 s28 wr => ∃ (i : Nat) (A7 : Option Addr) (c7 : Nat), i + gk = n ∧ s7 = .slice A7 i c7 ∧ s28 = .int .i64 (i : Int) ∧ KidsOwn wr (w.heap.size + 2) (.slice A7 i c7) i (kids.take i) ∧ Below (w.heap.size + 2) W2 wr)
    case atStart => exact ⟨0, none, 0, by omega, rfl, rfl, KidsOwn.nil _ _, (Below.refl _ _)⟩
    case round =>
      obtain ⟨i, A7, c7, hi, rfl, rfl, hK7, hB⟩ := hrel
      have hs2 := HS2.out
      have HB := Lib.hid hB
      have HI := Lib.hid hi
      have HK7 := Lib.hid hK7
      have hin : i ≤ n := by omega
      have hbsz := hB.size
      have HZ : Hid (W2.heap.size ≤ wr.heap.size) := Lib.hid hbsz
      clear hB hi hK7
      by_cases hlt : i < n
      · have hlt' : (i : Int) < (n : Int) := by omega
        obtain ⟨u, hu⟩ : ∃ u, kids[i]? = some u := ⟨_, List.getElem?_eq_getElem (by rw [HN.out]; exact hlt)⟩
        obtain ⟨vals, ⟨b, off, hA, hbl, hcs⟩, hT⟩ := HK2.out.get i u hu
        obtain ⟨A', c', hvals, hK'⟩ := hT.five
        subst hA
        subst hvals
        have hcu := countsM_mem hu
        have htk : kids.take (i + 1) = kids.take i ++ [u] := by
          rw [List.take_add_one, hu]
          rfl
        obtain ⟨W3, hW3⟩ : ∃ W3, wr.alloc (.cells #[.int .i64 u.kind, .string u.text, .int .i64 u.at_, .int .i64 u.end_, .slice A' u.kids.length c'] 24) = W3 := ⟨_, rfl⟩
        have hb3 : Below wr.heap.size wr W3 := by rw [← hW3]; exact below_alloc _ _
        have hbb : b < w.heap.size + 2 := by omega
        have hg : b < wr.heap.size := by omega
        have q0 : wr.cell? ⟨b, off + i * 5, none⟩ = some (.int .i64 u.kind) := (HB.out.cell (p := ⟨b, _, none⟩) hbb).trans (by simpa using hcs 0 _ rfl)
        have q1 : wr.cell? ⟨b, off + i * 5 + 1, none⟩ = some (.string u.text) := (HB.out.cell (p := ⟨b, _, none⟩) hbb).trans (by simpa using hcs 1 _ rfl)
        have q2 : wr.cell? ⟨b, off + i * 5 + 2, none⟩ = some (.int .i64 u.at_) := (HB.out.cell (p := ⟨b, _, none⟩) hbb).trans (by simpa using hcs 2 _ rfl)
        have q3 : wr.cell? ⟨b, off + i * 5 + 3, none⟩ = some (.int .i64 u.end_) := (HB.out.cell (p := ⟨b, _, none⟩) hbb).trans (by simpa using hcs 3 _ rfl)
        have q4 : wr.cell? ⟨b, off + i * 5 + 4, none⟩ = some (.slice A' u.kids.length c') := (HB.out.cell (p := ⟨b, _, none⟩) hbb).trans (by simpa using hcs 4 _ rfl)
        have hcall := HIH.out u A' c' W3 (by have := HM.out; omega) (by have := HM.out; omega) (KidsAt.mono (B := w.heap.size) (by have := hb3.size; omega) _ _ _ (KidsAt.below (HB.out.trans (hb3.mono (by omega))) (by omega) _ _ _ hK'))
        unfold nodeV at hcall
        have HC := Lib.hid hcall
        have HU : Hid (kids.take (i + 1) = kids.take i ++ [u]) := Lib.hid htk
        have HB3 := Lib.hid hb3
        obtain ⟨⟨y0, y1, y2, y3, y4⟩, -⟩ : ((W3.cell? ⟨wr.heap.size, 0, none⟩ = some (.int .i64 u.kind) ∧ W3.cell? ⟨wr.heap.size, 1, none⟩ = some (.string u.text) ∧ W3.cell? ⟨wr.heap.size, 2, none⟩ = some (.int .i64 u.at_) ∧ W3.cell? ⟨wr.heap.size, 3, none⟩ = some (.int .i64 u.end_) ∧ W3.cell? ⟨wr.heap.size, 4, none⟩ = some (.slice A' u.kids.length c')) ∧ True) := by
          have h := Blk.five (w := W3) (g := wr.heap.size) (by rw [← hW3]; exact Blk.new wr _ _)
          exact ⟨h.1, trivial⟩
        have HIN : Hid (i ≤ 1000000 ∧ i < n ∧ w.heap.size + 2 ≤ wr.heap.size) := Lib.hid ⟨by omega, hlt, by omega⟩
        clear hcs hT hK' hcall hu hbb hg hcu htk hb3 hs2 hbsz hbl
        go_wp2_with (rw [hW3])
        refine HC.out.mono ?_
        rintro e w6 ⟨A6, c6, rfl, hT6, hb6⟩
        have hb36 := HB3.out.trans (hb6.mono HB3.out.size)
        obtain ⟨vals, hO, hTs, hn⟩ := HK7.out.keeps (KeepsN.of_below hb36)
        have hTn : TreeOwn w6 (fun g => w.heap.size + 2 ≤ g ∧ some g ≠ (Value.slice A7 i c7).ownBlock) u (cellsV u A6 c6) := TreeOwn.weak (fun g _ hg => ⟨by have := HB3.out.size; have := HIN.out; omega, fun e1 => by
          obtain ⟨_, hO4, _, _⟩ := HK7.out
          have := (hO4.lt g e1.symm).2
          have := HB3.out.size
          omega⟩) _ _ hT6
        have HO := Lib.hid hO
        have HTs := Lib.hid hTs
        have HTN := Lib.hid hTn
        have Hn := Lib.hid hn
        have HB6 : Hid (Below (w.heap.size + 2) W2 w6 ∧ wr.heap.size ≤ w6.heap.size) := Lib.hid ⟨HB.out.trans (hb36.mono (by have := HIN.out; omega)), hb36.size⟩
        clear hO hTs hTn hn hT6 hb36 hb6
        unfold nodeV
        have hib : i ≤ 1000000 := HIN.out.1
        have hlo6 : w.heap.size + 2 ≤ w6.heap.size := by have := HIN.out; have := HB6.out; omega
        go_wp2_with (at_builtin; go_must (refine wpList_append_S _ rfl (.tmp 32) (.tmp 36) _ rfl (w.heap.size + 2) 24 i0 _ 5 64 Tryz.underlying22 hi0 hz0 hz1 hz2 rfl (.slice A7 i c7) i (List.flatten vals) rfl (HO.out.alloc _) ⟨w6.heap.size, 0, none⟩ 1 1 (cellsV u A6 c6) rfl rfl (news_five _ _ _ _ _ _ _ (by go_simp) (by go_simp) (by go_simp) (by go_simp) (by go_simp)) (by simp [cellsV, Value.oneCell']) (by simp only [maxLen]; omega) (by omega) (by simp; omega) ?_); intro vn w7 hown hgrow hat; obtain ⟨A8, c8, hvn, -, -⟩ := hown.shape; subst hvn; have HOWN := Lib.hid hown; have HGROW := Lib.hid hgrow; have HAT := Lib.hid hat; clear hown hgrow hat)
        have HK8 := Lib.hid (KidsOwn.pushed HTs.out Hn.out HTN.out HOWN.out HGROW.out HAT.out)
        have hb7 : Below (w.heap.size + 2) W2 w7 := (HB6.out.1.alloc hlo6 _).grown HGROW.out (by simp; omega) (fun k hk => (HO.out.lt k hk).1)
        go_roundg (gk - 1)
        case measure => have := HI.out; omega
        case rel => exact ⟨i + 1, A8, c8, by have := HI.out; omega, rfl, by simp, by rw [HU.out]; exact HK8.out, hb7⟩
      · have hie : i = n := by omega
        subst hie
        have hR1' : Blk wr w.heap.size 24 #[.int .i64 k, .string x, .int .i64 a, .int .i64 z, .slice A i c] := HR1.out.below HB.out (by omega)
        have hR2' : Blk wr g1 24 #[.int .i64 0, .string ⟨#[]⟩, .int .i64 0, .int .i64 0, .slice none 0 0] := HR2.out.below HB.out (by omega)
        obtain ⟨⟨t0, t1, t2, t3, t4⟩, u0, u1, u2, u3, u4⟩ := hR1'.five
        obtain ⟨⟨y0, y1, y2, y3, y4⟩, v0, v1, v2, v3, v4⟩ := hR2'.five
        obtain ⟨W9, hW9⟩ : ∃ W9, wr.setCell ⟨w.heap.size, 4, none⟩ (.slice A7 i c7) = W9 := ⟨_, rfl⟩
        have hne : g1 ≠ w.heap.size := by omega
        have hne2 : w.heap.size ≠ g1 := by omega
        have HB9 : Hid (Below w.heap.size w W9) := Lib.hid (by
          rw [← hW9]
          exact (HB2.out.trans (HB.out.mono (by omega))).setCell (Nat.le_refl _) _)
        have hR9 : Blk W9 w.heap.size 24 #[.int .i64 k, .string x, .int .i64 a, .int .i64 z, .slice A7 i c7] := by
          rw [← hW9]
          have := hR1'.set_ 4 (.slice A7 i c7)
          simpa using this
        have hR29 : Blk W9 g1 24 #[.int .i64 0, .string ⟨#[]⟩, .int .i64 0, .int .i64 0, .slice none 0 0] := by
          rw [← hW9]
          exact hR2'.far hne _
        have HK9 : Hid (KidsOwn W9 (w.heap.size + 2) (.slice A7 i c7) i kids) := Lib.hid (by
          have h := HK7.out
          rw [show kids.take i = kids by rw [← HN.out, List.take_length]] at h
          rw [← hW9]
          exact h.keeps (keeps_set (by omega) _ _ _))
        have H9 := Lib.hid (And.intro hR9 hR29)
        clear hR1' hR2' y0 y1 y2 y3 y4 v0 v1 v2 v3 v4 hR9 hR29 hbsz hs2
        go_upto_region 10 with (rw [hW9])
        go_cut [] (fun wx => wx = W9)
        case first =>
          go_wp2_with (rw [hW9])
          go_meet
          rfl
        case rest =>
          subst hcut
          obtain ⟨⟨t0, t1, t2, t3, t4⟩, -⟩ := H9.out.1.five
          obtain ⟨⟨y0, y1, y2, y3, y4⟩, v0, v1, v2, v3, v4⟩ := H9.out.2.five
          obtain ⟨W10, hW10⟩ : ∃ W10, ((((wc.setCell ⟨g1, 0, none⟩ (.int .i64 k)).setCell ⟨g1, 1, none⟩ (.string x)).setCell ⟨g1, 2, none⟩ (.int .i64 a)).setCell ⟨g1, 3, none⟩ (.int .i64 z)).setCell ⟨g1, 4, none⟩ (.slice A7 i c7) = W10 := ⟨_, rfl⟩
          have hR10 : Blk W10 g1 24 #[.int .i64 k, .string x, .int .i64 a, .int .i64 z, .slice A7 i c7] := by
            have := ((((H9.out.2.set_ 0 (.int .i64 k)).set_ 1 (.string x)).set_ 2 (.int .i64 a)).set_ 3 (.int .i64 z)).set_ 4 (.slice A7 i c7)
            rw [← hW10]
            simpa using this
          have hs2 := HS2.out
          have hgw : w.heap.size ≤ g1 := by omega
          have hgl : g1 < w.heap.size + 2 := by omega
          have HB10 : Hid (Below w.heap.size w W10) := Lib.hid (by rw [← hW10]; exact (((((HB9.out).setCell hgw _).setCell hgw _).setCell hgw _).setCell hgw _).setCell hgw _)
          have HK10 : Hid (KidsOwn W10 (w.heap.size + 2) (.slice A7 i c7) i kids) := Lib.hid (by
            rw [← hW10]
            exact ((((HK9.out.keeps (keeps_set hgl _ _ _)).keeps (keeps_set hgl _ _ _)).keeps (keeps_set hgl _ _ _)).keeps (keeps_set hgl _ _ _)).keeps (keeps_set hgl _ _ _))
          have HFIN : Hid (OwnRes w (.node k x a z kids) (.returned (.agg #[.int .i64 k, .string x, .int .i64 a, .int .i64 z, .slice A7 i c7])) W10) := Lib.hid (by
            have hnd := HK10.out.node k x a z
            refine ⟨A7, c7, ?_, ?_, HB10.out⟩
            · unfold nodeV
              simp only [Tree.kind, Tree.text, Tree.at_, Tree.end_, Tree.kids, HN.out]
            · unfold cellsV
              simp only [Tree.kind, Tree.text, Tree.at_, Tree.end_, Tree.kids, HN.out]
              exact TreeOwn.weak (fun g _ hg => by omega) _ _ hnd)
          have H10 := Lib.hid hR10
          clear hs2 hgw hgl hR10
          go_wp2_with (rw [hW10])
          obtain ⟨⟨x0, x1, x2, x3, x4⟩, -⟩ := H10.out.five
          clear t0 t1 t2 t3 t4 y0 y1 y2 y3 y4 v0 v1 v2 v3 v4 hW10
          refine bodyPost_ret (v := .agg #[.int .i64 k, .string x, .int .i64 a, .int .i64 z, .slice A7 i c7]) (by simp [results, Tryz.results54, go_sem, x0, x1, x2, x3, x4]) rfl ?_
          exact HFIN.out

/-- A node of the call's own is put into a block of the call's own, which is read again. -/
theorem own_stored {w w0 : World} {g : Nat} {t : Tree} {A : Option Addr} {n c : Nat} {c0 c1 c2 c3 c4 : Value} {k a z : Int} {x : ByteArray} (hT : TreeOwn w0 (fun q => g + 1 ≤ q) t (cellsV t A c)) (hb : Below w.heap.size w w0) (hg : w.heap.size ≤ g) (hR : Blk w0 g 24 #[c0, c1, c2, c3, c4])
    (hk : t.kind = k) (hx : t.text = x) (ha : t.at_ = a) (hz : t.end_ = z) (hn : t.kids.length = n) :
    ∃ W, ((((w0.setCell ⟨g, 0, none⟩ (.int .i64 k)).setCell ⟨g, 1, none⟩ (.string x)).setCell ⟨g, 2, none⟩ (.int .i64 a)).setCell ⟨g, 3, none⟩ (.int .i64 z)).setCell ⟨g, 4, none⟩ (.slice A n c) = W ∧
      Blk W g 24 #[.int .i64 k, .string x, .int .i64 a, .int .i64 z, .slice A n c] ∧ Below w.heap.size w W ∧ OwnRes w t (.returned (.agg #[.int .i64 k, .string x, .int .i64 a, .int .i64 z, .slice A n c])) W := by
  refine ⟨_, rfl, ?_, ?_, ?_⟩
  · have := ((((hR.set_ 0 (.int .i64 k)).set_ 1 (.string x)).set_ 2 (.int .i64 a)).set_ 3 (.int .i64 z)).set_ 4 (.slice A n c)
    simpa using this
  · exact ((((hb.setCell hg _).setCell hg _).setCell hg _).setCell hg _).setCell hg _
  · subst hk hx ha hz hn
    have hgl : g < g + 1 := Nat.lt_succ_self _
    refine ⟨A, c, rfl, ?_, ((((hb.setCell hg _).setCell hg _).setCell hg _).setCell hg _).setCell hg _⟩
    refine TreeOwn.weak (fun q _ hq => by omega) _ _ (TreeOwn.keeps ?_ t _ hT)
    exact ((((keeps_set hgl _ _ _).trans (keeps_set hgl _ _ _)).trans (keeps_set hgl _ _ _)).trans (keeps_set hgl _ _ _)).trans (keeps_set hgl _ _ _)

set_option maxHeartbeats 4000000 in
set_option maxRecDepth 100000 in
theorem copied_any (t : Tree) (A : Option Addr) (c : Nat) (w : World) (hm : countM t ≤ 1000000) (hk : KidsAt w w.heap.size A 0 t.kids) :
    Calls Tryz.prog 25 #[nodeV t A c] w (OwnRes w t) := by
  obtain ⟨k, hkk⟩ : ∃ q, t.kind = q := ⟨_, rfl⟩
  obtain ⟨x, hx⟩ : ∃ q, t.text = q := ⟨_, rfl⟩
  obtain ⟨a, ha⟩ : ∃ q, t.at_ = q := ⟨_, rfl⟩
  obtain ⟨z, hz⟩ : ∃ q, t.end_ = q := ⟨_, rfl⟩
  obtain ⟨n, hn⟩ : ∃ q, t.kids.length = q := ⟨_, rfl⟩
  have hnv : ∀ A c, nodeV t A c = .agg #[.int .i64 k, .string x, .int .i64 a, .int .i64 z, .slice A n c] := fun A c => by unfold nodeV; rw [hkk, hx, ha, hz, hn]
  rw [hnv]
  obtain ⟨W1, hW1⟩ : ∃ W1, w.alloc (.cells #[.int .i64 k, .string x, .int .i64 a, .int .i64 z, .slice A n c] 24) = W1 := ⟨_, rfl⟩
  have hR1 : Blk W1 w.heap.size 24 #[.int .i64 k, .string x, .int .i64 a, .int .i64 z, .slice A n c] := by rw [← hW1]; exact Blk.new w _ _
  have hs1 : W1.heap.size = w.heap.size + 1 := by rw [← hW1]; simp
  have hb1 : Below w.heap.size w W1 := by rw [← hW1]; exact below_alloc _ _
  obtain ⟨W2, hW2⟩ : ∃ W2, W1.alloc (.cells #[.int .i64 0, .string ⟨#[]⟩, .int .i64 0, .int .i64 0, .slice none 0 0] 24) = W2 := ⟨_, rfl⟩
  have hR2 : Blk W2 W1.heap.size 24 #[.int .i64 0, .string ⟨#[]⟩, .int .i64 0, .int .i64 0, .slice none 0 0] := by rw [← hW2]; exact Blk.new W1 _ _
  have hs2 : W2.heap.size = w.heap.size + 2 := by rw [← hW2]; simp [hs1]
  have hb2 : Below w.heap.size w W2 := by rw [← hW2]; exact hb1.alloc (by omega) _
  have hR12 : Blk W2 w.heap.size 24 #[.int .i64 k, .string x, .int .i64 a, .int .i64 z, .slice A n c] := by rw [← hW2]; exact hR1.alloc _
  obtain ⟨g1, hg1⟩ : ∃ g1, W1.heap.size = g1 := ⟨_, rfl⟩
  rw [hg1] at hR2 hs1
  have hcall := renamed_any 1000000 t A c W2 hm (Nat.le_refl _) (KidsAt.mono hb2.size _ _ _ (KidsAt.below hb2 (Nat.le_refl _) _ _ _ hk))
  rw [hnv] at hcall
  have HC := Lib.hid hcall
  have HR2 := Lib.hid hR2
  have HB2 := Lib.hid hb2
  have HS2 : Hid (W2.heap.size = w.heap.size + 2 ∧ g1 = w.heap.size + 1) := Lib.hid ⟨hs2, hs1⟩
  have HNV := Lib.hid (And.intro hkk (And.intro hx (And.intro ha (And.intro hz hn))))
  have HNW := Lib.hid hnv
  obtain ⟨⟨t0, t1, t2, t3, t4⟩, -⟩ := hR12.five
  clear hk hR1 hs1 hs2 hb1 hR2 hb2 hR12 hcall hkk hx ha hz hn hnv hm
  go_enter Tryz.func25, Tryz.ntmps25
  go_wp2_with (first | rw [hW1] | rw [hW2] | rw [hg1])
  clear hW1 hW2 hg1 t0 t1 t2 t3 t4
  refine HC.out.mono ?_
  rintro e w6 ⟨A6, c6, rfl, hT6, hb6⟩
  rw [HNW.out]
  have hR6 := HR2.out.below hb6 HR2.out.lt
  obtain ⟨⟨y0, y1, y2, y3, y4⟩, v0, v1, v2, v3, v4⟩ := hR6.five
  obtain ⟨W10, hW10, hR10, hB10, hF⟩ := own_stored (w := w) (n := n) (TreeOwn.weak (fun q _ hq => by have := HS2.out; omega) _ _ hT6) (HB2.out.trans (hb6.mono HB2.out.size)) (by have := HS2.out; omega) hR6 HNV.out.1 HNV.out.2.1 HNV.out.2.2.1 HNV.out.2.2.2.1 HNV.out.2.2.2.2
  have HF := Lib.hid hF
  have HR10 := Lib.hid hR10
  clear hF hR10 hB10 hR6 hb6 hT6
  go_wp2_with (rw [hW10])
  obtain ⟨⟨x0, x1, x2, x3, x4⟩, -⟩ := HR10.out.five
  clear y0 y1 y2 y3 y4 v0 v1 v2 v3 v4 hW10
  refine bodyPost_ret (v := .agg #[.int .i64 k, .string x, .int .i64 a, .int .i64 z, .slice A6 n c6]) (by simp [results, Tryz.results25, go_sem, x0, x1, x2, x3, x4]) rfl ?_
  exact HF.out
end Go.Proofs.YtfkdkbekmimhoaaGreatDoor
/- tree.shapes: a closed run, its end state read off; tree.List. -/
namespace Go.Proofs.YtfkdkbekmimhoaaGreatDoor
open Go.RowKit

section
variable {P : Program}
/-- A closed run, and what it ends in. -/
theorem closed_post {X : Nat → Option (Bx ExT)} (hX : ∀ f g, X f = some g → ExOk P f g.f) (hm : P.follows .mixedOrders = true) {j f : Nat} {k : KV} (hk : (callX P X j).st f [] ⟨.nil, 0⟩ k = some .yes) (w : World) :
    Calls P f #[] w fun e w' => (∃ v v' h' s, e = .returned v' ∧ k v h' = some .yes ∧ VR s v v' ∧ Rel P s h' w') ∧ Below w.heap.size w w' := by
  obtain ⟨-, h⟩ := (callX_ok hX hm j).st f [] _ _ _ _ #[] w hk (rel_none w) .nil
  refine callsIn_wide.1 (CallsIn.mono h fun e w' he => ?_)
  obtain ⟨v, v', h', s, rfl, h1, h2, h3⟩ := he
  exact ⟨⟨v, v', h', s, rfl, h1, h2, h3.rel⟩, h3.os, h3.tape, h3.output, h3.size, fun k hk => h3.frame k hk fun i o p hi => by rw [AH.get_nil] at hi; cases hi⟩
end

/-- The kinds whose kids are a list. -/
def listB (z : Int) : Bool := z == 2 || z == 3 || z == 6 || z == 11 || z == 19 || z == 26 || z == 27
noncomputable def listN (z : Int) : Bool := ifB (intEq z 2) true (ifB (intEq z 3) true (ifB (intEq z 6) true (ifB (intEq z 11) true (ifB (intEq z 19) true (ifB (intEq z 26) true (intEq z 27))))))
noncomputable def funcK (c : AV) (b : Bool) : Bool := ifB (Nat.beq c.tag 6) (ifB b (Nat.beq c.a 1) (Nat.beq c.a 0)) false
noncomputable def thirdK (l : List AV) (b : Bool) : Bool := List.casesOn l false fun _ l => List.casesOn l false fun _ l => List.casesOn l false fun c l => List.casesOn l false fun _ l => List.casesOn l (funcK c b) fun _ _ => false
noncomputable def okSh (e : ME) : Bool := ifB (Nat.beq e.key.tag 0) (ifB (Nat.beq e.key.a 0) (ifB (Nat.beq e.val.tag 7) (thirdK e.val.l (listN e.key.i)) false) false) false
noncomputable def hasK (es : List ME) (z : Int) : Bool := List.rec (motive := fun _ => Bool) false (fun e _ ih => ifB (intEq e.key.i z) true ih) es
noncomputable def shpK : KV := fun v h => ifB (Nat.beq v.tag 5) (ifB (Nat.beq v.a 1) (optK none (h.get v.b) fun o => ifB (Nat.beq o.kind 2) (ifB (allD okSh o.es)
  (ifB (hasK o.es 2) (ifB (hasK o.es 3) (ifB (hasK o.es 6) (ifB (hasK o.es 11) (ifB (hasK o.es 19) (ifB (hasK o.es 26) (ifB (hasK o.es 27) (some .yes) none) none) none) none) none) none) none) none) none) none) none
set_option maxRecDepth 100000
theorem shp_run : (callX Tryz.prog X39 1000).st 55 [] ⟨.nil, 0⟩ shpK = some .yes := by kernel_rfl

theorem intEq_ok {x y : Int} (h : intEq x y = true) : x = y := by
  cases x with
  | ofNat m =>
    cases y with
    | ofNat n => exact congrArg Int.ofNat (beq_of h)
    | negSucc n => cases h
  | negSucc m =>
    cases y with
    | ofNat n => cases h
    | negSucc n => exact congrArg Int.negSucc (beq_of h)
theorem hasK_ok {z : Int} : ∀ {es : List ME}, hasK es z = true → ∃ e ∈ es, e.key.i = z
  | [], h => by cases h
  | a :: es, h => by
    have h : ifB (intEq a.key.i z) true (hasK es z) = true := h
    cases hz : intEq a.key.i z with
    | true => exact ⟨a, List.mem_cons_self, intEq_ok hz⟩
    | false =>
      rw [hz, ifB_f] at h
      obtain ⟨e, h1, h2⟩ := hasK_ok h
      exact ⟨e, List.mem_cons_of_mem _ h1, h2⟩
theorem intEq_refl (x : Int) : intEq x x = true := by
  cases x with
  | ofNat m => exact Nat.beq_refl m
  | negSucc m => exact Nat.beq_refl m
theorem intEq_dec (x y : Int) : intEq x y = (x == y) := by
  cases h : intEq x y with
  | true => rw [intEq_ok h]; simp
  | false =>
    by_cases e : x = y
    · rw [e, intEq_refl] at h; cases h
    · simp [e]
theorem listN_eq (z : Int) : listN z = listB z := by
  unfold listN listB
  simp only [intEq_dec]
  cases z == 2 <;> cases z == 3 <;> cases z == 6 <;> cases z == 11 <;> cases z == 19 <;> cases z == 26 <;> cases z == 27 <;> rfl

/-- A shape in memory: whether its list is there. -/
def ShapeV (v : Value) (b : Bool) : Prop := ∃ c0 c1 c2 c3, v = .agg #[c0, c1, c2, c3] ∧ ((b = true ∧ ∃ f x y, c2 = .func f x y) ∨ (b = false ∧ c2 = .nilFunc))
theorem third_ok {r : Ren} {l : List AV} {cs : Array Value} {b : Bool} (h : thirdK l b = true) (hv : VRs r l cs.toList) : ShapeV (.agg cs) b := by
  unfold thirdK at h
  match l, h, hv with
  | [a0, a1, c, a3], h, hv =>
    have h : funcK c b = true := h
    obtain ⟨cs⟩ := cs
    have hv : VRs r [a0, a1, c, a3] cs := hv
    cases hv with
    | cons h0 t0 =>
      cases t0 with
      | cons h1 t1 =>
        cases t1 with
        | cons h2 t2 =>
          cases t2 with
          | cons h3 t3 =>
            cases t3
            refine ⟨_, _, _, _, rfl, ?_⟩
            unfold funcK at h
            obtain ⟨g1, g2⟩ := ifB2 h
            cases b with
            | true =>
              obtain ⟨x, y, rfl, -⟩ := h2.inv6 (beq_of g1) (beq_of g2)
              exact .inl ⟨rfl, _, _, _, rfl⟩
            | false =>
              exact .inr ⟨rfl, h2.inv6n (beq_of g1) (beq_of g2)⟩
  | [], h, _ => cases h
  | [_], h, _ => cases h
  | [_, _], h, _ => cases h
  | [_, _, _], h, _ => cases h
  | _ :: _ :: _ :: _ :: _ :: _, h, _ => cases h

theorem shapes_any (hX : ∀ f g, X39 f = some g → ExOk Tryz.prog f g.f) (w : World) :
    Calls Tryz.prog 55 #[] w fun e w' => (∃ b f, e = .returned (.map (some b)) ∧ IMap w' b f ∧ ∀ z, (∀ v, f z = some v → ShapeV v (listB z)) ∧ (f z = none → listB z = false)) ∧ Below w.heap.size w w' := by
  refine (closed_post hX (by kernel_rfl) shp_run w).mono ?_
  rintro e w' ⟨⟨v, v', h', s, rfl, hk, hv, hr⟩, hb⟩
  refine ⟨?_, hb⟩
  unfold shpK at hk
  obtain ⟨t1, hk⟩ := ifB_some hk
  obtain ⟨t2, hk⟩ := ifB_some hk
  obtain ⟨o, ho, hk⟩ := optK_some hk
  obtain ⟨t3, hk⟩ := ifB_some hk
  obtain ⟨t4, hk⟩ := ifB_some hk
  obtain ⟨k2, hk⟩ := ifB_some hk
  obtain ⟨k3, hk⟩ := ifB_some hk
  obtain ⟨k6, hk⟩ := ifB_some hk
  obtain ⟨k11, hk⟩ := ifB_some hk
  obtain ⟨k19, hk⟩ := ifB_some hk
  obtain ⟨k26, hk⟩ := ifB_some hk
  obtain ⟨k27, -⟩ := ifB_some hk
  obtain ⟨p, hp, rfl⟩ := hv.inv5 (beq_of t1) (beq_of t2)
  have hob := hr.live _ _ _ ho hp
  have hall := allD_ok t4
  have hlit : ∃ cur c, w'.heap[p.blk]? = some (.map cur c) ∧ (∀ E ∈ cur.toList, ∃ e ∈ o.es, VR s e.key E.key ∧ VR s e.val E.val) ∧ ∀ e ∈ o.es, ∃ E ∈ cur.toList, VR s e.key E.key ∧ VR s e.val E.val := by
    have hkd := beq_of t3
    cases hob with
    | arr _ _ _ _ _ _ => cases hkd
    | map _ _ _ => cases hkd
    | lit h1 h2 h3 _ _ => exact ⟨_, _, h1, h2, h3⟩
    | iter _ _ _ => cases hkd
    | loop _ _ _ _ _ _ _ _ => cases hkd
  obtain ⟨cur, c, hc, h1, h2⟩ := hlit
  have hent : ∀ E ∈ cur.toList, ∃ j : Int, E.key = .int .i64 j ∧ ShapeV E.val (listB j) := fun E hE => by
    obtain ⟨e, he, hke, hve⟩ := h1 E hE
    have hok := hall e he
    unfold okSh at hok
    obtain ⟨g1, hok⟩ := ifB2 hok
    obtain ⟨g2, hok⟩ := ifB2 hok
    obtain ⟨g3, hok⟩ := ifB2 hok
    obtain ⟨kd, hkk, hkd⟩ := hke.inv0 (beq_of g1)
    have : kd = .i64 := by
      rw [beq_of g2] at hkd
      exact (kindN_inj (k := .i64) (k' := kd) hkd).symm
    subst this
    obtain ⟨cs, hcs, hvs⟩ := hve.inv7 (beq_of g3)
    refine ⟨e.key.i, hkk, ?_⟩
    rw [hcs, ← listN_eq]
    exact third_ok hok hvs
  refine ⟨p.blk, fun k => valAt cur.toList k, rfl, ⟨cur, c, hc, fun E hE => ?_, fun k => rfl⟩, fun z => ⟨fun v hv => ?_, fun hn => ?_⟩⟩
  · obtain ⟨j, hj, -⟩ := hent E hE
    exact ⟨j, hj⟩
  · unfold valAt at hv
    obtain ⟨E, hE, rfl⟩ := Option.map_eq_some_iff.1 hv
    have hmem := List.mem_of_find?_eq_some hE
    have hkey := List.find?_some hE
    obtain ⟨j, hj, hs⟩ := hent E hmem
    have : z = j := by
      simp [isKey, hj] at hkey
      first | exact hkey | exact hkey.symm
    rw [this]
    exact hs
  · have hno : ∀ e ∈ o.es, e.key.i ≠ z := fun e he hez => by
      obtain ⟨E, hE, hke, -⟩ := h2 e he
      have hok := hall e he
      unfold okSh at hok
      obtain ⟨g1, hok⟩ := ifB2 hok
      obtain ⟨g2, -⟩ := ifB2 hok
      obtain ⟨kd, hkk, hkd⟩ := hke.inv0 (beq_of g1)
      have : kd = .i64 := by
        rw [beq_of g2] at hkd
        exact (kindN_inj (k := .i64) (k' := kd) hkd).symm
      subst this
      unfold valAt at hn
      have hn := Option.map_eq_none_iff.1 hn
      have := List.find?_eq_none.1 hn E hE
      simp [isKey, hkk, hez] at this
    have hz : ∀ z0, hasK o.es z0 = true → z ≠ z0 := fun z0 h e => by
      obtain ⟨e0, he0, hk0⟩ := hasK_ok h
      exact hno e0 he0 (hk0.trans e.symm)
    unfold listB
    simp [hz 2 k2, hz 3 k3, hz 6 k6, hz 11 k11, hz 19 k19, hz 26 k26, hz 27 k27]
end Go.Proofs.YtfkdkbekmimhoaaGreatDoor
