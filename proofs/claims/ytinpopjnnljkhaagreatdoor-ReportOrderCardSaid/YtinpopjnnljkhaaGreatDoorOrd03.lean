/- ReportOrder: the law returns true for every source and every diagnostics. Part 3 of 17. -/
import Derived.Test.YtinpopjnnljkhaaGreatDoorOrd02
import Derived.RangeFuncBox
import Derived.RangeFuncGives
import Derived.RangeFuncLeaves
import Derived.Shelf.Abstract
import Derived.WalkKit
import Derived.OwnWalkIn
import Derived.TacticsInMore
import Derived.LoopNIn
import Derived.LoopIn
/- The values of a row, handed on one by one. -/
namespace Go.Proofs.YtinpopjnnljkhaaGreatDoor
open Go.RowKit Go.Shelf
attribute [local go_sem] Oper.semAt_some

set_option maxRecDepth 100000 in
set_option maxHeartbeats 4000000 in
theorem values1_in (F : Fence) (n : Nat) (h7 : F.fn 56) (hro : F.round = none) (hn : 1 ≤ n) (l Bs n₀ : Nat) (A : Option Addr) (len cap : Nat) (xs : List Rd) (hl : xs.length = len) (hlm : len ≤ 1000) (J : List Rd → World → Prop)
    (hJ : ∀ s W o, J s W → J s (W.alloc o))
    (hY : ∀ pre x W, J pre W → n₀ ≤ W.heap.size → pre.length < len → YieldAt F (n - 1) Tryz.prog l #[.agg #[.int .i64 x.dg.code, .int .i64 x.dg.at_, .int .i64 x.dg.fin, .string x.dg.text, .slice x.A x.n x.c]] W fun e W' => e = .returned (.bool true) ∧ J (pre ++ [x]) W' ∧ Below n₀ W W')
    (W : World) (hBs : W.cell? ⟨Bs, 0, none⟩ = some (.slice A len cap)) (hBn : Bs < n₀) (hn0 : n₀ ≤ W.heap.size) (hX : RowAt 5 rdCells W n₀ A xs) (h0 : J [] W) :
    CallsIn F n Tryz.prog 56 #[.func (.yield l) #[] #[], .pointer (some ⟨Bs, 0, none⟩)] W fun e W' => (∃ v, e = .returned v) ∧ J xs W' := by
  have HX := Lib.hid hX
  have HL := Lib.hid hl
  have HJ := Lib.hid hJ
  have HY := Lib.hid hY
  clear hX hl hJ hY
  refine callsIn_of_wp Tryz.func56 rfl h7 ?_ hro
  simp only [Tryz.ntmps56, List.size_toArray, List.length_cons, List.length_nil, Nat.reduceAdd, Nat.reduceSub, Array.replicate_succ, Array.replicate_zero, List.push_toArray, List.append_toArray, List.nil_append, List.cons_append]
  gi_wp2
  gi_loopw [7] (fun i wr => ∃ k : Nat, k ≤ len ∧ i = .int .i64 k ∧ Hid (J (xs.take k) wr) ∧ Below n₀ W wr)
    (fun i _ => len - (intOf i).toNat)
  case atStart => exact ⟨0, Nat.zero_le _, rfl, Lib.hid (by simpa using h0), Below.refl _ _⟩
  case round =>
    obtain ⟨k, hk, rfl, hJs, hnx⟩ := hrel
    by_cases hlt : k < len
    · have hki : (k : Int) < (len : Int) := by omega
      have e1 : xs[k]? = some (xs[k]'(by rw [HL.out]; exact hlt)) := List.getElem?_eq_getElem _
      generalize xs[k]'(by rw [HL.out]; exact hlt) = x at e1
      obtain ⟨b1, o1, hA1, hb1, hc1⟩ := (HX.out.below hnx (Nat.le_refl _)) k _ e1
      subst hA1
      have E1 := Lib.hid e1
      have y0 : wr.cell? ⟨b1, o1 + k * 5, none⟩ = some (.int .i64 x.dg.code) := by simpa using hc1 0 _ rfl
      have y1 : wr.cell? ⟨b1, o1 + k * 5 + 1, none⟩ = some (.int .i64 x.dg.at_) := hc1 1 _ rfl
      have y2 : wr.cell? ⟨b1, o1 + k * 5 + 2, none⟩ = some (.int .i64 x.dg.fin) := hc1 2 _ rfl
      have y3 : wr.cell? ⟨b1, o1 + k * 5 + 3, none⟩ = some (.string x.dg.text) := hc1 3 _ rfl
      have y4 : wr.cell? ⟨b1, o1 + k * 5 + 4, none⟩ = some (.slice x.A x.n x.c) := hc1 4 _ rfl
      obtain ⟨W3, hW3⟩ : ∃ W3, wr.alloc (.cells #[.int .i64 x.dg.code, .int .i64 x.dg.at_, .int .i64 x.dg.fin, .string x.dg.text, .slice x.A x.n x.c] 35) = W3 := ⟨_, rfl⟩
      have hn0r : n₀ ≤ wr.heap.size := Nat.le_trans hn0 hnx.size
      have h3b : Below n₀ wr W3 := by rw [← hW3]; exact (Below.refl _ _).alloc hn0r _
      have h3x : Blk W3 wr.heap.size 35 #[.int .i64 x.dg.code, .int .i64 x.dg.at_, .int .i64 x.dg.fin, .string x.dg.text, .slice x.A x.n x.c] := by rw [← hW3]; exact Blk.new wr _ _
      have z0 : W3.cell? ⟨wr.heap.size, 0, none⟩ = some (.int .i64 x.dg.code) := h3x.cell 0
      have z1 : W3.cell? ⟨wr.heap.size, 1, none⟩ = some (.int .i64 x.dg.at_) := h3x.cell 1
      have z2 : W3.cell? ⟨wr.heap.size, 2, none⟩ = some (.int .i64 x.dg.fin) := h3x.cell 2
      have z3 : W3.cell? ⟨wr.heap.size, 3, none⟩ = some (.string x.dg.text) := h3x.cell 3
      have z4 : W3.cell? ⟨wr.heap.size, 4, none⟩ = some (.slice x.A x.n x.c) := h3x.cell 4
      have hJ3 : J (xs.take k) W3 := by rw [← hW3]; exact HJ.out _ _ _ hJs.out
      have HB3 := Lib.hid (hnx.trans h3b)
      obtain ⟨fn, tmps, assign, body, hy, hR⟩ := HY.out (xs.take k) x W3 hJ3 (by have := HB3.out.size; omega) (by rw [List.length_take, HL.out]; omega)
      clear h3b h3x hc1 e1 hJ3 hnx hJs
      gi_wp2_with (rw [hW3])
      refine hR.mono ?_
      rintro e W4 ⟨rfl, hJ4, hb4⟩
      have HJ4 := Lib.hid hJ4
      have HB4 := Lib.hid (HB3.out.trans hb4)
      clear hJ4 hb4 hR hy
      gi_wp2
      go_roundw
      case rel => exact ⟨k + 1, by omega, by go_num, Lib.hid (by rw [List.take_add_one, E1.out]; exact HJ4.out), HB4.out⟩
      case measure => simp [intOf]; omega
    · obtain rfl : k = len := by omega
      gi_wp2
      go_end0
      refine ⟨⟨_, rfl⟩, ?_⟩
      have := hJs.out
      rw [← HL.out, List.take_length] at this
      exact this

def apAssign : Code := (Code.region 2 #[{ dst := some 5, op := Op.alloc 35, type := 0, pos := "iter.go:51", after := #[], guard := none }, { dst := none, op := Op.store 35 (Operand.tmp 5) (Operand.tmp 7), type := 0, pos := "iter.go:51", after := #[{ on := 0, ground := Ground.data }, { on := 0, ground := Ground.phase }], guard := none }] false)
def apBody : Code := (Code.block 1 (Code.region 3 #[{ dst := some 8, op := Op.load 29 (Operand.tmp 2), type := 29, pos := "iter.go:52", after := #[], guard := none }, { dst := some 9, op := Op.load 35 (Operand.tmp 5), type := 35, pos := "iter.go:52", after := #[], guard := none }, { dst := some 10, op := Op.buildSlice 29 1 #[(0, Operand.tmp 9)], type := 29, pos := "iter.go:52", after := #[{ on := 1, ground := Ground.data }], guard := none }, { dst := some 11, op := Op.call { callee := Callee.builtin Builtin.append, args := #[Operand.tmp 8, Operand.tmp 10], argTypes := #[29, 29] }, type := 29, pos := "iter.go:52", after := #[{ on := 0, ground := Ground.data }, { on := 2, ground := Ground.data }], guard := none }, { dst := none, op := Op.store 29 (Operand.tmp 2) (Operand.tmp 11), type := 0, pos := "iter.go:52", after := #[{ on := 3, ground := Ground.data }, { on := 3, ground := Ground.chain }, { on := 0, ground := Ground.phase }, { on := 1, ground := Ground.phase }, { on := 2, ground := Ground.phase }, { on := 3, ground := Ground.phase }], guard := none }] false))
def apRec (fn : FuncId) (sv : Value) (Bs D : Nat) (st : LoopState) (pend : Option Code) : Loop :=
  { state := st, pending := pend, fn, tmps := #[.slice none 0 0, sv, .pointer (some ⟨Bs, 0, none⟩), undef, .slice none 0 0, undef, sv, undef, undef, undef, undef, undef, undef], params := #[7], assign := apAssign, body := apBody, defers := D }
/-- Between two rounds. -/
structure ApAt (w0 : World) (fn : FuncId) (sv : Value) (Bs l D : Nat) (ss : List Rd) (W : World) : Prop where
  box : ∃ v, W.heap[Bs]? = some (.cells #[v] 29 (0, 0)) ∧ W.ownsRow w0.heap.size 35 5 v ss.length (ss.flatMap rdCells)
  L : W.heap[l]? = some (.loop (apRec fn sv Bs D .ready none))
  K : W.heap[D]? = some (.deferred (some []))
  below : Below w0.heap.size w0 W
theorem ApAt.alloc {w0 : World} {fn : FuncId} {sv : Value} {Bs l D : Nat} {ss : List Rd} {W : World} (h : ApAt w0 fn sv Bs l D ss W) (o : Obj) : ApAt w0 fn sv Bs l D ss (W.alloc o) := by
  obtain ⟨v, hv, hr⟩ := h.box
  have lt : ∀ {k : Nat} {o : Obj}, W.heap[k]? = some o → k < W.heap.size := fun h => (Array.getElem?_eq_some_iff.1 h).1
  exact ⟨⟨v, (Below.heap_alloc _ _ _ (lt hv)).trans hv, hr.alloc _⟩, (Below.heap_alloc _ _ _ (lt h.L)).trans h.L, (Below.heap_alloc _ _ _ (lt h.K)).trans h.K, h.below.alloc h.below.size _⟩
theorem Below.via {n : Nat} {a b c : World} (h : Below n a b) (h' : Below n a c) (hs : b.heap.size ≤ c.heap.size) : Below n b c :=
  ⟨h'.os.trans h.os.symm, h'.tape.trans h.tape.symm, h'.output.trans h.output.symm, hs, fun k hk => (h'.block k hk).trans (h.block k hk).symm⟩
theorem grownBy_putObj_d (W : World) (l : Nat) (o : Obj) : W.grownBy (W.putObj l o) (some l) :=
  ⟨rfl, rfl, rfl, by simp, fun k _ hk => World.putObj_heap_other (fun e => hk (by rw [e]))⟩
theorem ownsRow_ne_d {W : World} {base : Nat} {e : TypeId} {size : Nat} {v : Value} {k : Nat} {xs : List Value} (h : W.ownsRow base e size v k xs) {j : Nat} {o : Obj} (hj : W.heap[j]? = some o) (hno : ∀ cur, o ≠ .cells cur e (0, 0)) :
    v.ownBlock = none ∨ v.ownBlock ≠ some j := by
  rcases h.2 with ⟨rfl, _⟩ | ⟨g, cap, cur, rfl, _, hgb, _⟩
  · exact .inl rfl
  · refine .inr fun e' => ?_
    have : g = j := by simpa [Value.ownBlock] using e'
    subst this; rw [hgb] at hj; cases hj; exact hno cur rfl
theorem news_cells (w : World) (g : Nat) (ty : TypeId) (l : List Value) (h : Blk w g ty l.toArray) : ∀ j v, l[j]? = some v → w.cell? ((⟨g, 0, none⟩ : Addr).add j) = some v := fun j v hj => by
  rw [Addr.add_lit, Nat.zero_add, h.cell]
  simpa using hj
theorem cell_of_box_d {W : World} {B : Nat} {v : Value} {t : TypeId} (h : W.heap[B]? = some (.cells #[v] t (0, 0))) : W.cell? ⟨B, 0, none⟩ = some v ∧ W.frozen? ⟨B, 0, none⟩ = false := by
  constructor <;> simp [World.cell?, World.frozen?, h]
theorem heap_setCell_box_d {W : World} {B : Nat} {v : Value} {t : TypeId} (v' : Value) (h : W.heap[B]? = some (.cells #[v] t (0, 0))) : (W.setCell ⟨B, 0, none⟩ v').heap[B]? = some (.cells #[v'] t (0, 0)) := by
  obtain ⟨hlt, hk⟩ := Array.getElem?_eq_some_iff.1 h
  show (W.heap.modify B _)[B]? = _
  rw [Array.getElem?_eq_getElem (by rw [Array.size_modify]; exact hlt), Array.getElem_modify_self, hk]
  rfl
theorem grownBy_setCell_d (W : World) (b : Nat) (v : Value) : W.grownBy (W.setCell ⟨b, 0, none⟩ v) (some b) :=
  ⟨rfl, rfl, rfl, (KeepsWalks.setCell W _ v).size, fun k _ hk => Below.heap_setCell _ _ _ k (fun e => hk (by rw [e]))⟩
theorem rd_info : (Tryz.prog.info? 35).map (fun i => (i.zero, i.size, i.bytes)) = some (some (.agg #[.int .i64 0, .int .i64 0, .int .i64 0, .string ⟨#[]⟩, .slice none 0 0]), 5, 64) := by kernel_rfl

set_option maxRecDepth 100000 in
set_option maxHeartbeats 8000000 in
theorem ap_yield (F : Fence) (m : Nat) (w0 : World) (fn : FuncId) (hfn : F.fn fn) (sv : Value) (Bs l D : Nat) (hBl : Bs ≠ l) (hDl : D ≠ l) (hDB : D ≠ Bs) (h0B : w0.heap.size ≤ Bs) (h0l : w0.heap.size ≤ l)
    (ss : List Rd) (x : Rd) (W : World) (h : ApAt w0 fn sv Bs l D ss W) (hlen : ss.length < 1000) :
    YieldAt F m Tryz.prog l #[.agg #[.int .i64 x.dg.code, .int .i64 x.dg.at_, .int .i64 x.dg.fin, .string x.dg.text, .slice x.A x.n x.c]] W fun e W' => e = .returned (.bool true) ∧ ApAt w0 fn sv Bs l D (ss ++ [x]) W' ∧ Below w0.heap.size W W' := by
  obtain ⟨i0, hi, hz0, hz1, hz2⟩ := info_parts rd_info
  obtain ⟨v, hv, hrow⟩ := h.box
  refine ⟨fn, #[.slice none 0 0, sv, .pointer (some ⟨Bs, 0, none⟩), undef, .slice none 0 0, undef, sv, .agg #[.int .i64 x.dg.code, .int .i64 x.dg.at_, .int .i64 x.dg.fin, .string x.dg.text, .slice x.A x.n x.c], undef, undef, undef, undef, undef], apAssign, apBody, by simpa [apRec] using run_yield (P := Tryz.prog) (args := #[.agg #[.int .i64 x.dg.code, .int .i64 x.dg.at_, .int .i64 x.dg.fin, .string x.dg.text, .slice x.A x.n x.c]]) h.L rfl, roundIn_of_wpIn hfn ?_⟩
  obtain ⟨Wa, hWa⟩ : ∃ Wa, W.alloc (.cells #[.int .i64 x.dg.code, .int .i64 x.dg.at_, .int .i64 x.dg.fin, .string x.dg.text, .slice x.A x.n x.c] 35) = Wa := ⟨_, rfl⟩
  have hxa : Blk Wa W.heap.size 35 #[.int .i64 x.dg.code, .int .i64 x.dg.at_, .int .i64 x.dg.fin, .string x.dg.text, .slice x.A x.n x.c] := by rw [← hWa]; exact Blk.new W _ _
  have ha : ApAt w0 fn sv Bs l D ss Wa := by rw [← hWa]; exact h.alloc _
  have hsa : W.heap.size ≤ Wa.heap.size := by rw [← hWa]; simp
  have hlW : l < W.heap.size := (Array.getElem?_eq_some_iff.1 h.L).1
  have HH := Lib.hid h
  clear h hv hrow
  obtain ⟨v, hv, hrow⟩ := ha.box
  have hl : l < Wa.heap.size := (Array.getElem?_eq_some_iff.1 ha.L).1
  have hbr := run_beginRound (P := Tryz.prog) ha.L rfl
  obtain ⟨W2, hW2⟩ : ∃ W2, Wa.putObj l (.loop { apRec fn sv Bs D .ready none with state := .busy }) = W2 := ⟨_, rfl⟩
  rw [hW2] at hbr
  have hg2 : Wa.grownBy W2 (some l) := by rw [← hW2]; exact grownBy_putObj_d _ _ _
  have hv2 : W2.heap[Bs]? = some (.cells #[v] 29 (0, 0)) := by rw [← hW2]; exact (World.putObj_heap_other hBl).trans hv
  have hK2 : W2.heap[D]? = some (.deferred (some [])) := by rw [← hW2]; exact (World.putObj_heap_other hDl).trans ha.K
  have hL2 : W2.heap[l]? = some (.loop { apRec fn sv Bs D .ready none with state := .busy }) := by rw [← hW2]; exact World.putObj_heap_same hl
  have hrow2 : W2.ownsRow w0.heap.size 35 5 v ss.length (ss.flatMap rdCells) := hrow.kept hg2 (ownsRow_ne_d hrow ha.L (fun cur e => by cases e))
  have hb2 : Below w0.heap.size w0 W2 := ha.below.grown hg2 ha.below.size (fun k e => by cases e; exact h0l)
  have hx2 : Blk W2 W.heap.size 35 #[.int .i64 x.dg.code, .int .i64 x.dg.at_, .int .i64 x.dg.fin, .string x.dg.text, .slice x.A x.n x.c] := by rw [← hW2]; exact (World.putObj_heap_other (by omega)).trans hxa
  have hs2 : Wa.heap.size = W2.heap.size := by rw [← hW2]; simp
  have za0 : W2.cell? ⟨W.heap.size, 0, none⟩ = some (.int .i64 x.dg.code) := hx2.cell 0
  have za1 : W2.cell? ⟨W.heap.size, 1, none⟩ = some (.int .i64 x.dg.at_) := hx2.cell 1
  have za2 : W2.cell? ⟨W.heap.size, 2, none⟩ = some (.int .i64 x.dg.fin) := hx2.cell 2
  have za3 : W2.cell? ⟨W.heap.size, 3, none⟩ = some (.string x.dg.text) := hx2.cell 3
  have za4 : W2.cell? ⟨W.heap.size, 4, none⟩ = some (.slice x.A x.n x.c) := hx2.cell 4
  have ca : W2.cell? ⟨Bs, 0, none⟩ = some v := by simp [World.cell?, hv2]
  have HA : Hid (W2.heap[Bs]? = some (.cells #[v] 29 (0, 0)) ∧ W2.heap[D]? = some (.deferred (some [])) ∧ W2.heap[l]? = some (.loop { apRec fn sv Bs D .ready none with state := .busy }) ∧ W2.ownsRow w0.heap.size 35 5 v ss.length (ss.flatMap rdCells) ∧ Below w0.heap.size w0 W2 ∧ W.heap.size ≤ W2.heap.size) := Lib.hid ⟨hv2, hK2, hL2, hrow2, hb2, by omega⟩
  have HBR := Lib.hid hbr
  have hlb := hb2.size
  clear hW2 hv2 hK2 hL2 hrow2 hb2 hsa hrow hv ha hxa hx2 hs2 hg2 hbr hl hlW
  unfold apAssign
  gi_wp2_with (first | (rw [Oper.semAt_eq _ _ _ (fun c h => by cases h)]; go_simp; try go_bits) | rw [hWa])
  refine ⟨W2, by first | exact HBR.out | (rw [hWa]; exact HBR.out), ?_⟩
  clear hWa
  obtain ⟨Wt, hWt⟩ : ∃ Wt, W2.alloc (.cells #[.int .i64 x.dg.code, .int .i64 x.dg.at_, .int .i64 x.dg.fin, .string x.dg.text, .slice x.A x.n x.c] 35) = Wt := ⟨_, rfl⟩
  have hxt : Blk Wt W2.heap.size 35 #[.int .i64 x.dg.code, .int .i64 x.dg.at_, .int .i64 x.dg.fin, .string x.dg.text, .slice x.A x.n x.c] := by rw [← hWt]; exact Blk.new W2 _ _
  have HNEW := Lib.hid (news_cells Wt W2.heap.size _ (rdCells x) hxt)
  have HRT : Hid (Wt.ownsRow w0.heap.size 35 5 v ss.length (ss.flatMap rdCells)) := Lib.hid (by rw [← hWt]; exact HA.out.2.2.2.1.alloc _)
  have hst : w0.heap.size ≤ Wt.heap.size := by rw [← hWt]; simp; omega
  have HWT : Hid (∀ (k : Nat) (o : Obj), W2.heap[k]? = some o → (∀ cur, o ≠ .cells cur 35 (0, 0)) → k < Wt.heap.size ∧ some k ≠ v.ownBlock ∧ Wt.heap[k]? = some o) := Lib.hid (fun k o hk hno => by
    have hlt := (Array.getElem?_eq_some_iff.1 hk).1
    refine ⟨by rw [← hWt]; simp; omega, ?_, by rw [← hWt]; exact (Below.heap_alloc _ _ _ hlt).trans hk⟩
    rcases ownsRow_ne_d HA.out.2.2.2.1 hk hno with e | e
    · rw [e]; simp
    · exact fun e' => e e'.symm)
  have hbt : Below w0.heap.size w0 Wt := by rw [← hWt]; exact HA.out.2.2.2.2.1.alloc HA.out.2.2.2.2.1.size _
  have HBT := Lib.hid hbt
  have HST : Hid (W.heap.size ≤ Wt.heap.size) := Lib.hid (by rw [← hWt]; have := HA.out.2.2.2.2.2; simp; omega)
  clear hxt hbt
  unfold apBody
  gi_wp2_with (first
    | (gi_at_builtin; refine wpListIn_append_own _ rfl _ _ 29 rfl w0.heap.size 35 i0 _ 5 64 Tryz.underlying29 hi hz0 hz1 hz2 rfl (by decide) _ _ _ rfl HRT.out ⟨W2.heap.size, 0, none⟩ 1 1 (rdCells x) rfl rfl HNEW.out (fun v hv => by simp [rdCells] at hv; rcases hv with rfl | rfl | rfl | rfl | rfl <;> rfl) (by simp only [maxLen]; omega) (by omega) hst ?_; intro v' w3 hown' hg3 hnil3
       have hv3 : w3.heap[Bs]? = some (.cells #[v] 29 (0, 0)) := by
         obtain ⟨h1, h2, h3⟩ := HWT.out Bs _ HA.out.1 (fun cur e => by cases e)
         exact (hg3.block Bs h1 h2).trans h3
       obtain ⟨hc3, hf3⟩ := cell_of_box_d hv3
       obtain ⟨g', cap', cur', rfl, hbase', hgb', hr1, hr2, hr3, hr4⟩ : ∃ g' cap' cur', v' = .slice (some ⟨g', 0, none⟩) (ss.length + 1) cap' ∧ w0.heap.size ≤ g' ∧ w3.heap[g']? = some (.cells cur' 35 (0, 0)) ∧ ss.length + 1 ≤ cap' ∧ cap' ≤ maxLen ∧ cur'.size = cap' * 5 ∧ cur'.toList.take ((ss.length + 1) * 5) = ss.flatMap rdCells ++ rdCells x := by
         rcases hown'.2 with ⟨_, h0⟩ | h'
         · exact absurd h0 (by omega)
         · exact h'
       go_frame)
    | (rw [Oper.semAt_eq _ _ _ (fun c h => by cases h)]; go_simp; try go_bits) | rw [hWt])
  clear hWt
  have hL3 : w3.heap[l]? = some (.loop { apRec fn sv Bs D .ready none with state := .busy }) := by
    obtain ⟨h1, h2, h3⟩ := HWT.out l _ HA.out.2.2.1 (fun cur e => by cases e)
    exact (hg3.block l h1 h2).trans h3
  have hK3 : w3.heap[D]? = some (.deferred (some [])) := by
    obtain ⟨h1, h2, h3⟩ := HWT.out D _ HA.out.2.1 (fun cur e => by cases e)
    exact (hg3.block D h1 h2).trans h3
  obtain ⟨w4, hw4⟩ : ∃ w4, w3.setCell ⟨Bs, 0, none⟩ (.slice (some ⟨g', 0, none⟩) (ss.length + 1) cap') = w4 := ⟨_, rfl⟩
  rw [hw4]
  have hg4 : w3.grownBy w4 (some Bs) := by rw [← hw4]; exact grownBy_setCell_d _ _ _
  have hv4 : w4.heap[Bs]? = some (.cells #[.slice (some ⟨g', 0, none⟩) (ss.length + 1) cap'] 29 (0, 0)) := by rw [← hw4]; exact heap_setCell_box_d _ hv3
  have hL4 : w4.heap[l]? = some (.loop { apRec fn sv Bs D .ready none with state := .busy }) := (hg4.block l (Array.getElem?_eq_some_iff.1 hL3).1 (fun e => hBl (by cases e; rfl))).trans hL3
  have hK4 : w4.heap[D]? = some (.deferred (some [])) := (hg4.block D (Array.getElem?_eq_some_iff.1 hK3).1 (fun e => hDB (by cases e; rfl))).trans hK3
  have hrow4 := hown'.kept hg4 (ownsRow_ne_d hown' hv3 (fun cur e => by cases e))
  have hl4 : l < w4.heap.size := (Array.getElem?_eq_some_iff.1 hL4).1
  have hb3 : Below w0.heap.size w0 w3 := HBT.out.grown hg3 HBT.out.size (fun k e => (HRT.out.lt k e).1)
  have hb4 : Below w0.heap.size w0 w4 := hb3.grown hg4 hb3.size (fun k e => by cases e; exact h0B)
  have hs4 : W.heap.size ≤ w4.heap.size := Nat.le_trans HST.out (Nat.le_trans hg3.size (by rw [← hw4]; simp))
  clear hw4
  have hb5 := hb4.grown (grownBy_putObj_d w4 l (.loop { { apRec fn sv Bs D .ready none with state := .busy } with state := if (none : Option Code).isNone then .ready else .done, pending := none })) hb4.size (fun k e => by cases e; exact h0l)
  refine ⟨_, _, run_endRound none hL4, rfl, ⟨⟨_, (World.putObj_heap_other hBl).trans hv4, ?_⟩, World.putObj_heap_same hl4, (World.putObj_heap_other hDl).trans hK4, hb5⟩, Below.via HH.out.below hb5 (by simp; omega)⟩
  have := hrow4.kept (grownBy_putObj_d w4 l (.loop { { apRec fn sv Bs D .ready none with state := .busy } with state := if (none : Option Code).isNone then .ready else .done, pending := none })) (ownsRow_ne_d hrow4 hL4 (fun cur e => by cases e))
  simpa using this
end Go.Proofs.YtinpopjnnljkhaaGreatDoor
/- Collect, SortedStableFunc. -/
namespace Go.Proofs.YtinpopjnnljkhaaGreatDoor
open Go.RowKit Go.Shelf
attribute [local go_sem] Oper.semAt_some

set_option maxRecDepth 100000 in
set_option maxHeartbeats 8000000 in
theorem appendSeq_in (F : Fence) (n : Nat) (h11 : F.fn 128) (hFg : F.fn 56) (hro : F.round = none) (hn : 2 ≤ n) (Bv : Nat) (A : Option Addr) (len cap : Nat) (xs : List Rd) (hl : xs.length = len) (hlm : len ≤ 1000) (w : World)
    (hBs : w.cell? ⟨Bv, 0, none⟩ = some (.slice A len cap)) (hBn : Bv < w.heap.size) (hX : RowAt 5 rdCells w w.heap.size A xs) :
    CallsIn F n Tryz.prog 128 #[.slice none 0 0, .func (.func 56) #[] #[.pointer (some ⟨Bv, 0, none⟩)]] w fun e w' => ∃ v : Value, e = .returned v ∧ w'.ownsRow w.heap.size 35 5 v len (xs.flatMap rdCells) ∧ Below w.heap.size w w' := by
  have h1 : 1 ≤ n := by omega
  have HX := Lib.hid hX
  have HL := Lib.hid hl
  have HC := Lib.hid hBs
  clear hX hl hBs
  refine callsIn_of_wp_marks Tryz.func128 rfl h11 ?_ hro
  simp only [Tryz.ntmps128, List.size_toArray, List.length_cons, List.length_nil, Nat.reduceAdd, Nat.reduceSub, Array.replicate_succ, Array.replicate_zero, List.push_toArray, List.append_toArray, List.nil_append, List.cons_append]
  gi_wp2
  refine wpIn_rangeFunc ?_
  intro fn hfn
  rw [hro]
  obtain ⟨W0, hW0⟩ : ∃ W0, w.alloc (.cells #[.slice none 0 0] 29) = W0 := ⟨_, rfl⟩
  have hs0 : W0.heap.size = w.heap.size + 1 := by rw [← hW0]; simp
  have hv0 : W0.heap[w.heap.size]? = some (.cells #[.slice none 0 0] 29 (0, 0)) := by rw [← hW0]; exact World.alloc_heap_new w _
  have hb0 : Below w.heap.size w W0 := by rw [← hW0]; exact (Below.refl _ w).alloc (Nat.le_refl _) _
  rw [hW0]
  obtain ⟨W1, hW1⟩ : ∃ W1, (W0.alloc (.deferred (some []))).alloc (.loop (apRec fn (.func (.func 56) #[] #[.pointer (some ⟨Bv, 0, none⟩)]) w.heap.size W0.heap.size .ready none)) = W1 := ⟨_, rfl⟩
  have hold : ∀ k, k < W0.heap.size → W1.heap[k]? = W0.heap[k]? := fun k hk => by
    rw [← hW1]; exact (Below.heap_alloc _ _ k (by simp; omega)).trans (Below.heap_alloc _ _ k hk)
  have hb1 : Below w.heap.size w W1 := by rw [← hW1]; exact (hb0.alloc hb0.size _).alloc (by have := hb0.size; simp; omega) _
  have hs1 : W1.heap.size = W0.heap.size + 2 := by rw [← hW1]; simp
  have hM : ApAt w fn (.func (.func 56) #[] #[.pointer (some ⟨Bv, 0, none⟩)]) w.heap.size (W0.heap.size + 1) W0.heap.size [] W1 :=
    ⟨⟨_, (hold w.heap.size (by omega)).trans hv0, ⟨rfl, .inl ⟨rfl, rfl⟩⟩⟩,
     by rw [← hW1]; have := World.alloc_heap_new (W0.alloc (.deferred (some []))) (.loop (apRec fn (.func (.func 56) #[] #[.pointer (some ⟨Bv, 0, none⟩)]) w.heap.size W0.heap.size .ready none)); rwa [World.size_alloc] at this,
     by rw [← hW1]; exact (Below.heap_alloc _ _ _ (by simp)).trans (World.alloc_heap_new W0 _), hb1⟩
  refine ⟨W0.heap.size + 1, [{ target := .collected W0.heap.size, args := #[] }], W1, { target := .fn (.func 56) #[.pointer (some ⟨Bv, 0, none⟩)], args := #[.func (.yield (W0.heap.size + 1)) #[] #[]] }, W1, 56,
    #[.func (.yield (W0.heap.size + 1)) #[] #[]] ++ #[.pointer (some ⟨Bv, 0, none⟩)], W1, ?_, ?_, ?_, ?_, fun _ => h1, ?_⟩
  · rw [← hW1]; exact run_enterLoop_outer _ _ _ _ _
  · simp [resolve, go_sem]
  · intro f' hf'; simp [Target.leads] at hf'; subst hf'; exact hFg
  · have eg := enters_of (P := Tryz.prog) Tryz.func56 (by kernel_rfl) rfl
    simp [invoke, go_sem, eg]
  · have hW1c : W1.cell? ⟨Bv, 0, none⟩ = some (.slice A len cap) := (hb1.cell (p := ⟨Bv, 0, none⟩) hBn).trans HC.out
    have hX1 : RowAt 5 rdCells W1 w.heap.size A xs := HX.out.below hb1 (Nat.le_refl _)
    refine (values1_in F (n - 1) hFg hro (by omega) (W0.heap.size + 1) Bv w.heap.size A len cap xs HL.out hlm (ApAt w fn (.func (.func 56) #[] #[.pointer (some ⟨Bv, 0, none⟩)]) w.heap.size (W0.heap.size + 1) W0.heap.size) (fun s W o h => h.alloc o)
      (fun pre x W hJ _ hlp => ap_yield F (n - 1 - 1) w fn hfn _ w.heap.size (W0.heap.size + 1) W0.heap.size (by omega) (by omega) (by omega) (Nat.le_refl _) (by omega) pre x W hJ (by omega)) W1 hW1c hBn hb1.size hX1 hM).mono ?_
    rintro e W2 ⟨⟨v0, rfl⟩, h2⟩
    obtain ⟨v, hv, hrow⟩ := h2.box
    have hend := run_endLoop (P := Tryz.prog) h2.L (by simp [apRec])
    obtain ⟨W3, hW3⟩ : ∃ W3, W2.putObj (W0.heap.size + 1) (.loop { apRec fn (.func (.func 56) #[] #[.pointer (some ⟨Bv, 0, none⟩)]) w.heap.size W0.heap.size .ready none with state := .exhausted }) = W3 := ⟨_, rfl⟩
    rw [hW3] at hend
    have hg3 : W2.grownBy W3 (some (W0.heap.size + 1)) := by rw [← hW3]; exact grownBy_putObj_d _ _ _
    have hv3 : W3.heap[w.heap.size]? = some (.cells #[v] 29 (0, 0)) := by rw [← hW3]; exact (World.putObj_heap_other (by omega)).trans hv
    have hK3 : W3.heap[W0.heap.size]? = some (.deferred (some [])) := by rw [← hW3]; exact (World.putObj_heap_other (by omega)).trans h2.K
    have hrow3 := hrow.kept hg3 (ownsRow_ne_d hrow h2.L (fun cur e => by cases e))
    have hb3 : Below w.heap.size w W3 := h2.below.grown hg3 h2.below.size (fun k e => by cases e; omega)
    obtain ⟨hc3, hf3⟩ := cell_of_box_d hv3
    rw [HL.out] at hrow3
    have HR3 := Lib.hid hrow3
    have HB3 := Lib.hid hb3
    clear hW3 hrow hv hv0 hM hold hW1c hX1 hb1 hb0 hW1 hW0
    refine ⟨none, W3, hend, ?_⟩
    clear hrow3 hend hb3 hg3
    gi_wp2
    rw [← hs0]
    refine ⟨by simp, .inl ⟨_, _, rfl, run_takeDeferred hK3, ?_⟩⟩
    exact ⟨_, results_tmp rfl _ _ _, v, rfl, HR3.out.kept (grownBy_putObj_d _ _ _) (ownsRow_ne_d HR3.out hK3 (fun cur e => by cases e)), HB3.out.grown (grownBy_putObj_d _ _ _) HB3.out.size (fun k e => by cases e; omega)⟩

set_option maxHeartbeats 4000000 in
theorem collect_in (F : Fence) (n : Nat) (h8 : F.fn 54) (h11 : F.fn 128) (hFg : F.fn 56) (hro : F.round = none) (hn : 3 ≤ n) (Bv : Nat) (A : Option Addr) (len cap : Nat) (xs : List Rd) (hl : xs.length = len) (hlm : len ≤ 1000) (w : World)
    (hBs : w.cell? ⟨Bv, 0, none⟩ = some (.slice A len cap)) (hBn : Bv < w.heap.size) (hX : RowAt 5 rdCells w w.heap.size A xs) :
    CallsIn F n Tryz.prog 54 #[.func (.func 56) #[] #[.pointer (some ⟨Bv, 0, none⟩)]] w fun e w' => ∃ v : Value, e = .returned v ∧ w'.ownsRow w.heap.size 35 5 v len (xs.flatMap rdCells) ∧ Below w.heap.size w w' := by
  have h1 : 1 ≤ n := by omega
  have HAP := Lib.hid (appendSeq_in F (n - 1) h11 hFg hro (by omega) Bv A len cap xs hl hlm w hBs hBn hX)
  clear hBs hX hl
  refine callsIn_of_wp Tryz.func54 rfl h8 ?_ hro
  simp only [Tryz.ntmps54, List.size_toArray, List.length_cons, List.length_nil, Nat.reduceAdd, Nat.reduceSub, Array.replicate_succ, Array.replicate_zero, List.push_toArray, List.append_toArray, List.nil_append, List.cons_append]
  gi_wp2_with (gi_at_call 128; refine HAP.out.mono ?_; rintro e w' ⟨v, rfl, hrow, hb⟩)
  go_ret
  exact ⟨v, rfl, hrow, hb⟩
theorem collect_any (Bv : Nat) (A : Option Addr) (len cap : Nat) (xs : List Rd) (hl : xs.length = len) (hlm : len ≤ 1000) (w : World)
    (hBs : w.cell? ⟨Bv, 0, none⟩ = some (.slice A len cap)) (hBn : Bv < w.heap.size) (hX : RowAt 5 rdCells w w.heap.size A xs) :
    Calls Tryz.prog 54 #[.func (.func 56) #[] #[.pointer (some ⟨Bv, 0, none⟩)]] w fun e w' => ∃ v : Value, e = .returned v ∧ w'.ownsRow w.heap.size 35 5 v len (xs.flatMap rdCells) ∧ Below w.heap.size w w' :=
  callsIn_wide.1 (collect_in Fence.wide 3 trivial trivial trivial rfl (Nat.le_refl _) Bv A len cap xs hl hlm w hBs hBn hX)
end Go.Proofs.YtinpopjnnljkhaaGreatDoor
