/- TemplatesUndoes: an edit, and then the edit that undoes it, gives the tree. Part 8 of 14. -/
import Derived.Test.YtfkdkbekmimhoaaGreatDoorUnd07
import Derived.Lib.AppendZerosOnto
import Derived.Lib.SliceRun
/- slices.Grow of a nil slice; what every law of the chapter checks first; tree.List. -/
namespace Go.Proofs.YtfkdkbekmimhoaaGreatDoor
open Go.RowKit

set_option maxHeartbeats 4000000 in
set_option maxRecDepth 100000 in
theorem Grow_any (n : Nat) (w : World) (h1 : 1 ≤ n) (h2 : n ≤ 1000000) :
    Calls Tryz.prog 171 #[.slice none 0 0, .int .i64 (n : Int)] w fun en w' => Below w.heap.size w w' ∧
      ∃ g cur c, en = .returned (.slice (some ⟨g, 0, none⟩) 0 c) ∧ w.heap.size ≤ g ∧ g < w'.heap.size ∧ w'.heap[g]? = some (.cells cur 24 (0, 0)) ∧ c * 5 ≤ cur.size ∧ c ≤ 9223372036854775807 := by
  obtain ⟨i0, hi0, hz0, hz1, hz2⟩ := info_parts node_info
  have q1 : ¬ ((n : Int) < 0) := by omega
  have q4 : (n : Int) > 0 := by omega
  have q5 : (0 : Int) < (n : Int) := by omega
  go_enter Tryz.func171, Tryz.ntmps171
  have hold : (Builtin.firstCells i0.size 0 (.slice none 0 0)).run Tryz.prog w.drew = .ok (#[] : Array Value) w.drew := run_firstCells_none w.drew i0.size 0 0 0
  have hrz : ∀ ty, (Builtin.append_ #[22, 3] ty #[.slice none 0 0, .int .i64 (n : Int)]).run Tryz.prog w =
      .ok (.slice (some ⟨w.heap.size, 0, none⟩) n (grownCap w n 0 24)) (w.drew.alloc (.cells (#[] ++ Builtin.zeroCells (Value.agg #[.int .i64 0, .string ⟨#[]⟩, .int .i64 0, .int .i64 0, .slice none 0 0]).cells n ++ Builtin.zeroCells (Value.agg #[.int .i64 0, .string ⟨#[]⟩, .int .i64 0, .int .i64 0, .slice none 0 0]).cells (grownCap w n 0 24 - n)) 24)) := fun ty => by
    have h := Lib.run_append_grow_zeros w 22 3 ty 24 i0 _ .i64 .i64 Tryz.underlying22 Tryz.underlying3 hi0 hz0 none 0 0 [] hold n (by omega) (by omega) (by omega) (by omega) (by rw [hz2]; omega) (by rw [Nat.zero_add]; exact growslice_fits (by omega) (by rw [hz2]; omega))
    simp only [Nat.zero_add] at h
    exact h
  have hGn := grownCap_ge w n 0 24
  have hG63 := grownCap_le_maxLen w n 0 24 (by unfold maxLen; omega)
  obtain ⟨G, hG⟩ : ∃ G, G = grownCap w n 0 24 := ⟨_, rfl⟩
  rw [← hG] at hrz hGn hG63
  unfold maxLen at hG63
  obtain ⟨W, hW⟩ : ∃ W, (w.drew.alloc (.cells (#[] ++ Builtin.zeroCells (Value.agg #[.int .i64 0, .string ⟨#[]⟩, .int .i64 0, .int .i64 0, .slice none 0 0]).cells n ++ Builtin.zeroCells (Value.agg #[.int .i64 0, .string ⟨#[]⟩, .int .i64 0, .int .i64 0, .slice none 0 0]).cells (G - n)) 24)) = W := ⟨_, rfl⟩
  rw [hW] at hrz
  have HF : Hid (Below w.heap.size w W ∧ ∃ g cur c, Ending.returned (Value.slice (some ⟨w.heap.size, 0, none⟩) 0 G) = .returned (.slice (some ⟨g, 0, none⟩) 0 c) ∧ w.heap.size ≤ g ∧ g < W.heap.size ∧ W.heap[g]? = some (.cells cur 24 (0, 0)) ∧ c * 5 ≤ cur.size ∧ c ≤ 9223372036854775807) := Lib.hid (by
    rw [← hW]
    refine ⟨(Below.refl _ w).drew.alloc (Nat.le_refl _) _, w.heap.size, _, G, rfl, Nat.le_refl _, by simp, heap_alloc_new w.drew _, ?_, by omega⟩
    simp only [Array.size_append, size_zeroCells, Value.cells]
    simp
    omega)
  clear hG hold hW
  go_wp2_with (at_builtin; refine Lib.wpList_append_run _ rfl _ _ _ _ rfl _ _ rfl rfl _ _ (hrz _) ?_)
  all_goals
    go_ret
    exact HF.out
theorem X39_ok : ∀ f g, X39 f = some g → ExOk Tryz.prog f g.f := by
  intro f g hg
  unfold X39 at hg
  cases h1 : Nat.beq f 171 with
  | true =>
    rw [h1, ifB_t] at hg
    cases hg
    rw [beq_of h1]
    exact ex_grow (s := 5) ⟨_, Tryz.func171, by kernel_rfl, by kernel_rfl⟩ (by kernel_rfl) fun n w h1 h2 => Grow_any n w h1 (by omega)
  | false =>
    rw [h1, ifB_f] at hg
    cases hg
theorem awake_any (w : World) : Calls Tryz.prog 5 #[] w fun e w' => e = .returned (.bool true) ∧ Below w.heap.size w w' := closed_yesX X39_ok (by kernel_rfl) aw_run w

theorem shape_info : (Tryz.prog.info? 106).map (fun i => i.zero) = some (some (.agg #[.nilFunc, .slice none 0 0, .nilFunc, .int .i64 0])) := by kernel_rfl
theorem run_zero_shape (w : World) : (zeroValue 106).run Tryz.prog w = .ok (.agg #[.nilFunc, .slice none 0 0, .nilFunc, .int .i64 0]) w := by
  have h := shape_info
  cases hi : Tryz.prog.info? 106 with
  | none => rw [hi] at h; cases h
  | some i =>
    rw [hi] at h
    simp only [Option.map_some, Option.some.injEq] at h
    simp [zeroValue, typeInfo, hi, h]

theorem run_field_list (c0 c1 c2 c3 : Value) (w : World) : (Instr.field 106 (.agg #[c0, c1, c2, c3]) 2).run Tryz.prog w = .ok c2 w := by
  have hu := Tryz.underlying106
  have hl := Tryz.underlying59
  simp [Instr.field, run_underlying hu, part, isAgg, run_underlying hl, asAgg]

section
variable {P : Program} {t : TypeId} {ps rs : Array TypeId} {vr : Bool}
theorem equalIn_nil_nil (w : World) (d : Nat) (h : P.underlying t = some (.func ps rs vr)) : (Op.equalIn (d + 1) t Value.nilFunc Value.nilFunc).run P w = .ok true w := by
  simp [Op.equalIn, run_underlying h]
theorem equalIn_func_nil (f : Go.Fn) (first cap : Array Value) (w : World) (d : Nat) (h : P.underlying t = some (.func ps rs vr)) : (Op.equalIn (d + 1) t (.func f first cap) Value.nilFunc).run P w = .ok false w := by
  simp [Op.equalIn, run_underlying h]
theorem eql_nil_nil (w : World) (h : P.underlying t = some (.func ps rs vr)) : (binOp BinOp.eql t Value.nilFunc Value.nilFunc).run P w = .ok (.bool true) w := by
  simp only [binOp]
  simp [Op.equal, Op.maxDepth, equalIn_nil_nil w 9999 h]
theorem eql_func_nil (f : Go.Fn) (first cap : Array Value) (w : World) (h : P.underlying t = some (.func ps rs vr)) : (binOp BinOp.eql t (.func f first cap) Value.nilFunc).run P w = .ok (.bool false) w := by
  simp only [binOp]
  simp [Op.equal, Op.maxDepth, equalIn_func_nil f first cap w 9999 h]
theorem neq_nil_nil (w : World) (h : P.underlying t = some (.func ps rs vr)) : (binOp BinOp.neq t Value.nilFunc Value.nilFunc).run P w = .ok (.bool false) w := by
  simp only [binOp]
  simp [Op.equal, Op.maxDepth, equalIn_nil_nil w 9999 h]
theorem neq_func_nil (f : Go.Fn) (first cap : Array Value) (w : World) (h : P.underlying t = some (.func ps rs vr)) : (binOp BinOp.neq t (.func f first cap) Value.nilFunc).run P w = .ok (.bool true) w := by
  simp only [binOp]
  simp [Op.equal, Op.maxDepth, equalIn_func_nil f first cap w 9999 h]
end

set_option maxHeartbeats 4000000 in
set_option maxRecDepth 100000 in
theorem List_any (z : Int) (w : World) : Calls Tryz.prog 28 #[.int .i64 z] w fun e w' => e = .returned (.bool (listB z)) ∧ Below w.heap.size w w' := by
  have HS := Lib.hid (shapes_any X39_ok w)
  go_enter Tryz.func28, Tryz.ntmps28
  go_wp2_with fail
  refine HS.out.mono ?_
  rintro e w2 ⟨⟨b, f, rfl, hm, hf⟩, hb2⟩
  obtain ⟨v, hv, hsv⟩ : ∃ v, (f z).getD (.agg #[.nilFunc, .slice none 0 0, .nilFunc, .int .i64 0]) = v ∧ ShapeV v (listB z) := by
    cases hz : f z with
    | none => exact ⟨_, rfl, _, _, _, _, rfl, .inr ⟨(hf z).2 hz, rfl⟩⟩
    | some v => exact ⟨v, rfl, (hf z).1 v hz⟩
  have hlk := run_lookup_int (P := Tryz.prog) (w := w2) Tryz.underlying107 Tryz.underlying3 run_zero_shape hm z
  rw [hv] at hlk
  obtain ⟨c0, c1, c2, c3, rfl, hc⟩ := hsv
  have HL := Lib.hid hlk
  have HB := Lib.hid hb2
  clear hf hm hv hlk hb2
  rcases hc with ⟨hl, fn, x, y, rfl⟩ | ⟨hl, rfl⟩
  · have HLL := Lib.hid hl
    clear hl
    go_wp2_with (first | rw [HL.out] | rw [run_field_list] | rw [neq_func_nil _ _ _ _ Tryz.underlying59] | rw [neq_nil_nil _ Tryz.underlying59])
    go_ret
    exact ⟨by simp [HLL.out], HB.out⟩
  · have HLL := Lib.hid hl
    clear hl
    go_wp2_with (first | rw [HL.out] | rw [run_field_list] | rw [neq_func_nil _ _ _ _ Tryz.underlying59] | rw [neq_nil_nil _ Tryz.underlying59])
    go_ret
    exact ⟨by simp [HLL.out], HB.out⟩
end Go.Proofs.YtfkdkbekmimhoaaGreatDoor
/- tree.Get, walked. -/
namespace Go.Proofs.YtfkdkbekmimhoaaGreatDoor
open Go.RowKit

/-- A row of ints that is only read. -/
def IntsAt (w : World) (B : Nat) (A : Option Addr) (l : List Int) : Prop := ∀ (k : Nat) (v : Int), l[k]? = some v → ∃ b off, A = some ⟨b, off, none⟩ ∧ b < B ∧ w.cell? ⟨b, off + k, none⟩ = some (.int .i64 v)
theorem IntsAt.below {w w' : World} {B B' : Nat} {A : Option Addr} {l : List Int} (h : IntsAt w B A l) (hb : Below B' w w') (hB : B ≤ B') : IntsAt w' B A l := fun k v hk => by
  obtain ⟨b, off, h1, h2, h3⟩ := h k v hk
  exact ⟨b, off, h1, h2, (hb.cell (p := ⟨b, _, none⟩) (Nat.lt_of_lt_of_le h2 hB)).trans h3⟩
theorem IntsAt.mono {w : World} {B B' : Nat} {A : Option Addr} {l : List Int} (h : IntsAt w B A l) (hB : B ≤ B') : IntsAt w B' A l := fun k v hk => by
  obtain ⟨b, off, h1, h2, h3⟩ := h k v hk
  exact ⟨b, off, h1, Nat.lt_of_lt_of_le h2 hB, h3⟩

/-- What lies at a path. -/
def getM : Tree → List Int → Option Tree
  | t, [] => some t
  | t, i :: p => if i < 0 then none else match t.kids[i.toNat]? with
    | some u => getM u p
    | none => none
def zeroN : Value := .agg #[.int .i64 0, .string ⟨#[]⟩, .int .i64 0, .int .i64 0, .slice none 0 0]
def GetRes (w : World) (t : Tree) (p : List Int) (e : Ending) (w' : World) : Prop :=
  Below w.heap.size w w' ∧ ((getM t p = none ∧ e = .returned (.tuple #[zeroN, .bool false])) ∨ ∃ u A c, getM t p = some u ∧ KidsAt w w.heap.size A 0 u.kids ∧ u.kids.length ≤ c ∧ e = .returned (.tuple #[nodeV u A c, .bool true]))

theorem stored5 {w : World} {g : Nat} {c0 c1 c2 c3 c4 a b c d e : Value} (h : Blk w g 24 #[c0, c1, c2, c3, c4]) : ∃ W, ((((w.setCell ⟨g, 0, none⟩ a).setCell ⟨g, 1, none⟩ b).setCell ⟨g, 2, none⟩ c).setCell ⟨g, 3, none⟩ d).setCell ⟨g, 4, none⟩ e = W ∧ Blk W g 24 #[a, b, c, d, e] ∧
    (∀ q, q ≠ g → W.heap[q]? = w.heap[q]?) ∧ ∀ B w0, Below B w0 w → B ≤ g → Below B w0 W := by
  refine ⟨_, rfl, ?_, fun q hq => ?_, fun B w0 hb hB => ((((hb.setCell hB _).setCell hB _).setCell hB _).setCell hB _).setCell hB _⟩
  · have := ((((h.set_ 0 a).set_ 1 b).set_ 2 c).set_ 3 d).set_ 4 e
    simpa using this
  · rw [Below.heap_setCell _ ⟨g, 4, none⟩ _ q hq, Below.heap_setCell _ ⟨g, 3, none⟩ _ q hq, Below.heap_setCell _ ⟨g, 2, none⟩ _ q hq, Below.heap_setCell _ ⟨g, 1, none⟩ _ q hq, Below.heap_setCell _ ⟨g, 0, none⟩ _ q hq]

set_option maxHeartbeats 4000000 in
set_option maxRecDepth 100000 in
theorem Get_any (t : Tree) (A : Option Addr) (c : Nat) (Ap : Option Addr) (np cp : Nat) (p : List Int) (w : World) (hk : KidsAt w w.heap.size A 0 t.kids) (hcap : t.kids.length ≤ c) (hp : IntsAt w w.heap.size Ap p) (hnp : p.length = np) (hnb : np ≤ 1000000) :
    Calls Tryz.prog 24 #[nodeV t A c, .slice Ap np cp] w (GetRes w t p) := by
  obtain ⟨k, hkk⟩ : ∃ q, t.kind = q := ⟨_, rfl⟩
  obtain ⟨x, hx⟩ : ∃ q, t.text = q := ⟨_, rfl⟩
  obtain ⟨a, ha⟩ : ∃ q, t.at_ = q := ⟨_, rfl⟩
  obtain ⟨z, hz⟩ : ∃ q, t.end_ = q := ⟨_, rfl⟩
  obtain ⟨n, hn⟩ : ∃ q, t.kids.length = q := ⟨_, rfl⟩
  have hnv : nodeV t A c = .agg #[.int .i64 k, .string x, .int .i64 a, .int .i64 z, .slice A n c] := by unfold nodeV; rw [hkk, hx, ha, hz, hn]
  rw [hnv]
  obtain ⟨W1, hW1⟩ : ∃ W1, w.alloc (.cells #[.int .i64 k, .string x, .int .i64 a, .int .i64 z, .slice A n c] 24) = W1 := ⟨_, rfl⟩
  have hR1 : Blk W1 w.heap.size 24 #[.int .i64 k, .string x, .int .i64 a, .int .i64 z, .slice A n c] := by rw [← hW1]; exact Blk.new w _ _
  have hs1 : W1.heap.size = w.heap.size + 1 := by rw [← hW1]; simp
  have hb1 : Below w.heap.size w W1 := by rw [← hW1]; exact below_alloc _ _
  obtain ⟨W2, hW2⟩ : ∃ W2, W1.alloc (.cells #[.int .i64 0, .string ⟨#[]⟩, .int .i64 0, .int .i64 0, .slice none 0 0] 24) = W2 := ⟨_, rfl⟩
  have hR2 : Blk W2 W1.heap.size 24 #[.int .i64 0, .string ⟨#[]⟩, .int .i64 0, .int .i64 0, .slice none 0 0] := by rw [← hW2]; exact Blk.new W1 _ _
  have hs2 : W2.heap.size = w.heap.size + 2 := by rw [← hW2]; simp [hs1]
  have hb2 : Below w.heap.size w W2 := by rw [← hW2]; exact hb1.alloc (by omega) _
  have hR12 : Blk W2 w.heap.size 24 #[.int .i64 k, .string x, .int .i64 a, .int .i64 z, .slice A n c] := by rw [← hW2]; exact hR1.alloc _
  obtain ⟨g1, hg1⟩ : ∃ g1, W1.heap.size = g1 := ⟨_, rfl⟩
  rw [hg1] at hR2 hs1
  have HS : Hid (∃ (u : Tree) (Au : Option Addr) (cu : Nat), getM t p = getM u (p.drop 0) ∧ KidsAt w w.heap.size Au 0 u.kids ∧ u.kids.length ≤ cu ∧ Blk W2 w.heap.size 24 (cellsV u Au cu).toArray ∧ Blk W2 g1 24 #[.int .i64 0, .string ⟨#[]⟩, .int .i64 0, .int .i64 0, .slice none 0 0] ∧ Below w.heap.size w W2) :=
    Lib.hid ⟨t, A, c, by simp, hk, hcap, by unfold cellsV; rw [hkk, hx, ha, hz, hn]; exact hR12, hR2, hb2⟩
  have HG : Hid (g1 = w.heap.size + 1) := Lib.hid hs1
  have HP := Lib.hid hp
  have HNP := Lib.hid hnp
  clear hk hcap hR1 hs1 hs2 hb1 hR2 hb2 hR12 hkk hx ha hz hn hnv hp hnp
  go_enter Tryz.func24, Tryz.ntmps24
  go_wp2_with (first | rw [hW1] | rw [hW2] | rw [hg1])
  clear hW1 hW2 hg1
  go_loopg [10] np (fun gk s10 wr => ∃ i : Nat, i + gk = np ∧ s10 = .int .i64 (i : Int) ∧ Hid (∃ (u : Tree) (Au : Option Addr) (cu : Nat), getM t p = getM u (p.drop i) ∧ KidsAt w w.heap.size Au 0 u.kids ∧ u.kids.length ≤ cu ∧ Blk wr w.heap.size 24 (cellsV u Au cu).toArray ∧ Blk wr g1 24 #[.int .i64 0, .string ⟨#[]⟩, .int .i64 0, .int .i64 0, .slice none 0 0] ∧ Below w.heap.size w wr))
  case atStart => exact ⟨0, by omega, rfl, HS⟩
  case round =>
    obtain ⟨i, hi, rfl, HS⟩ := hrel
    obtain ⟨u, Au, cu, hgm, hku, hcu, hRu, hRz, hB⟩ := HS.out
    have hin : i ≤ np := by omega
    have HI := Lib.hid hi
    obtain ⟨ku, hkku⟩ : ∃ q, u.kind = q := ⟨_, rfl⟩
    obtain ⟨xu, hxu⟩ : ∃ q, u.text = q := ⟨_, rfl⟩
    obtain ⟨au, hau⟩ : ∃ q, u.at_ = q := ⟨_, rfl⟩
    obtain ⟨zu, hzu⟩ : ∃ q, u.end_ = q := ⟨_, rfl⟩
    obtain ⟨nu, hnu⟩ : ∃ q, u.kids.length = q := ⟨_, rfl⟩
    have hRu : Blk wr w.heap.size 24 #[.int .i64 ku, .string xu, .int .i64 au, .int .i64 zu, .slice Au nu cu] := by
      have := hRu
      unfold cellsV at this
      rw [hkku, hxu, hau, hzu, hnu] at this
      exact this
    rw [hnu] at hcu
    obtain ⟨⟨t0, t1, t2, t3, t4⟩, u0, u1, u2, u3, u4⟩ := hRu.five
    obtain ⟨⟨y0, y1, y2, y3, y4⟩, v0, v1, v2, v3, v4⟩ := hRz.five
    have HGM := Lib.hid hgm
    have HKU := Lib.hid hku
    have HU := Lib.hid (And.intro hkku (And.intro hxu (And.intro hau (And.intro hzu hnu))))
    have HRU := Lib.hid hRu
    have HRZ := Lib.hid hRz
    have HB := Lib.hid hB
    have HCU := Lib.hid hcu
    clear hi hgm hku hkku hxu hau hzu hnu hRu hRz HS hcu
    by_cases hlt : i < np
    · have hlt' : (i : Int) < (np : Int) := by omega
      obtain ⟨pi, hpi⟩ : ∃ v, p[i]? = some v := ⟨_, List.getElem?_eq_getElem (by rw [HNP.out]; exact hlt)⟩
      obtain ⟨bp, op, hAp, hbp, hcp⟩ := HP.out i pi hpi
      subst hAp
      have q0 : wr.cell? ⟨bp, op + i, none⟩ = some (.int .i64 pi) := (hB.cell (p := ⟨bp, _, none⟩) hbp).trans hcp
      have hdr : p.drop i = pi :: p.drop (i + 1) := by
        obtain ⟨hl, he⟩ := List.getElem?_eq_some_iff.1 hpi
        rw [List.drop_eq_getElem_cons hl, he]
      have HDR := Lib.hid hdr
      clear hpi hcp hdr hB
      by_cases hbad : pi < 0 ∨ (nu : Int) ≤ pi
      · have hnone : getM t p = none := by
          rw [HGM.out, HDR.out, getM]
          rcases hbad with h | h
          · rw [if_pos h]
          · rw [if_neg (by omega), List.getElem?_eq_none (by rw [HU.out.2.2.2.2]; omega)]
        have HN := Lib.hid hnone
        clear hnone
        obtain ⟨W5, hW5, hR5, -, hB5⟩ := stored5 (a := .int .i64 0) (b := .string ⟨#[]⟩) (c := .int .i64 0) (d := .int .i64 0) (e := .slice none 0 0) HRZ.out
        have HR5 := Lib.hid hR5
        have HB5 := Lib.hid (hB5 _ _ HB.out (by have := HG.out; omega))
        clear hR5 hB5
        rcases hbad with h1 | h1
        · go_wp2_with (rw [hW5])
          obtain ⟨⟨x0, x1, x2, x3, x4⟩, -⟩ := HR5.out.five
          clear t0 t1 t2 t3 t4 y0 y1 y2 y3 y4 v0 v1 v2 v3 v4 u0 u1 u2 u3 u4 hW5
          apply bodyPost_ret (v := .tuple #[zeroN, .bool false])
          · simp [results, Tryz.results24, go_sem, x0, x1, x2, x3, x4, zeroN]
          · rfl
          exact ⟨HB5.out, .inl ⟨HN.out, rfl⟩⟩
        · have h2 : ¬ pi < 0 := by omega
          go_wp2_with (rw [hW5])
          obtain ⟨⟨x0, x1, x2, x3, x4⟩, -⟩ := HR5.out.five
          clear t0 t1 t2 t3 t4 y0 y1 y2 y3 y4 v0 v1 v2 v3 v4 u0 u1 u2 u3 u4 hW5
          apply bodyPost_ret (v := .tuple #[zeroN, .bool false])
          · simp [results, Tryz.results24, go_sem, x0, x1, x2, x3, x4, zeroN]
          · rfl
          exact ⟨HB5.out, .inl ⟨HN.out, rfl⟩⟩
      · obtain ⟨j, rfl⟩ : ∃ j : Nat, pi = (j : Int) := ⟨pi.toNat, by omega⟩
        have hj : j < nu := by omega
        have hj1 : (j : Int) < (nu : Int) := by omega
        have hj2 : ¬ (j : Int) < 0 := by omega
        have hj3 : ¬ (nu : Int) ≤ (j : Int) := by omega
        obtain ⟨y, hy⟩ : ∃ y, u.kids[j]? = some y := ⟨_, List.getElem?_eq_getElem (by rw [HU.out.2.2.2.2]; exact hj)⟩
        obtain ⟨vals, ⟨b, off, hA, hbl, hcs⟩, hT⟩ := HKU.out.get j y hy
        have hcapy := hT
        obtain ⟨A', c', hvals, hK'⟩ := hT.five
        subst hA
        subst hvals
        have hcapy := hcapy.cap
        have hgm2 : getM t p = getM y (p.drop (i + 1)) := by
          rw [HGM.out, HDR.out, getM, if_neg hj2, Int.toNat_natCast, hy]
        have hbw : b < wr.heap.size := Nat.lt_of_lt_of_le hbl HB.out.size
        have r0 : wr.cell? ⟨b, off + j * 5, none⟩ = some (.int .i64 y.kind) := (HB.out.cell (p := ⟨b, _, none⟩) hbl).trans (by simpa using hcs 0 _ rfl)
        have r1 : wr.cell? ⟨b, off + j * 5 + 1, none⟩ = some (.string y.text) := (HB.out.cell (p := ⟨b, _, none⟩) hbl).trans (by simpa using hcs 1 _ rfl)
        have r2 : wr.cell? ⟨b, off + j * 5 + 2, none⟩ = some (.int .i64 y.at_) := (HB.out.cell (p := ⟨b, _, none⟩) hbl).trans (by simpa using hcs 2 _ rfl)
        have r3 : wr.cell? ⟨b, off + j * 5 + 3, none⟩ = some (.int .i64 y.end_) := (HB.out.cell (p := ⟨b, _, none⟩) hbl).trans (by simpa using hcs 3 _ rfl)
        have r4 : wr.cell? ⟨b, off + j * 5 + 4, none⟩ = some (.slice A' y.kids.length c') := (HB.out.cell (p := ⟨b, _, none⟩) hbl).trans (by simpa using hcs 4 _ rfl)
        obtain ⟨W5, hW5, hR5, hf5, hB5⟩ := stored5 (a := .int .i64 y.kind) (b := .string y.text) (c := .int .i64 y.at_) (d := .int .i64 y.end_) (e := .slice A' y.kids.length c') HRU.out
        have HN : Hid (∃ (u : Tree) (Au : Option Addr) (cu : Nat), getM t p = getM u (p.drop (i + 1)) ∧ KidsAt w w.heap.size Au 0 u.kids ∧ u.kids.length ≤ cu ∧ Blk W5 w.heap.size 24 (cellsV u Au cu).toArray ∧ Blk W5 g1 24 #[.int .i64 0, .string ⟨#[]⟩, .int .i64 0, .int .i64 0, .slice none 0 0] ∧ Below w.heap.size w W5) :=
          Lib.hid ⟨y, A', c', hgm2, hK', hcapy, hR5, HRZ.out.keep (hf5 _ (by have := HG.out; omega)), hB5 _ _ HB.out (Nat.le_refl _)⟩
        obtain ⟨ny, hny⟩ : ∃ q, y.kids.length = q := ⟨_, rfl⟩
        obtain ⟨ky, hky⟩ : ∃ q, y.kind = q := ⟨_, rfl⟩
        obtain ⟨xy, hxy⟩ : ∃ q, y.text = q := ⟨_, rfl⟩
        obtain ⟨ay, hay⟩ : ∃ q, y.at_ = q := ⟨_, rfl⟩
        obtain ⟨zy, hzy⟩ : ∃ q, y.end_ = q := ⟨_, rfl⟩
        rw [hny] at r4
        rw [hky] at r0
        rw [hxy] at r1
        rw [hay] at r2
        rw [hzy] at r3
        rw [hny, hky, hxy, hay, hzy] at hW5
        clear hy hcs hT hK' hcapy hgm2 hR5 hf5 hB5 hny hky hxy hay hzy y0 y1 y2 y3 y4 v0 v1 v2 v3 v4 hbl
        go_wp2_with (rw [hW5])
        go_roundg (gk - 1)
        case measure => have := HI.out; omega
        case rel => exact ⟨i + 1, by have := HI.out; omega, by simp, HN⟩
    · have hie : i = np := by omega
      subst hie
      have hgm2 : getM t p = some u := by
        rw [HGM.out, List.drop_of_length_le (by rw [HNP.out]; exact Nat.le_refl _), getM]
      obtain ⟨W5, hW5, hR5, -, hB5⟩ := stored5 (a := .int .i64 ku) (b := .string xu) (c := .int .i64 au) (d := .int .i64 zu) (e := .slice Au nu cu) HRZ.out
      have HR5 := Lib.hid hR5
      have HF : Hid (GetRes w t p (.returned (.tuple #[.agg #[.int .i64 ku, .string xu, .int .i64 au, .int .i64 zu, .slice Au nu cu], .bool true])) W5) := Lib.hid ⟨hB5 _ _ HB.out (by have := HG.out; omega), .inr ⟨u, Au, cu, hgm2, HKU.out, by rw [HU.out.2.2.2.2]; exact HCU.out, by
        unfold nodeV
        rw [HU.out.1, HU.out.2.1, HU.out.2.2.1, HU.out.2.2.2.1, HU.out.2.2.2.2]⟩⟩
      clear hgm2 hR5 hB5 hB
      go_wp2_with (rw [hW5])
      obtain ⟨⟨x0, x1, x2, x3, x4⟩, -⟩ := HR5.out.five
      clear t0 t1 t2 t3 t4 y0 y1 y2 y3 y4 v0 v1 v2 v3 v4 u0 u1 u2 u3 u4 hW5
      apply bodyPost_ret (v := .tuple #[.agg #[.int .i64 ku, .string xu, .int .i64 au, .int .i64 zu, .slice Au nu cu], .bool true])
      · simp [results, Tryz.results24, go_sem, x0, x1, x2, x3, x4]
      · rfl
      exact HF.out
end Go.Proofs.YtfkdkbekmimhoaaGreatDoor
/- templates.Possible, walked. -/
namespace Go.Proofs.YtfkdkbekmimhoaaGreatDoor
open Go.RowKit

/-- An edit. -/
structure Ed where
  path : List Int
  from_ : Int
  to_ : Int
  new : List Tree
  template : Int
  choice : Int
  cost : Int
def edV (e : Ed) (Ap : Option Addr) (cp : Nat) (An : Option Addr) (cn : Nat) : Value := .agg #[.slice Ap e.path.length cp, .int .i64 e.from_, .int .i64 e.to_, .slice An e.new.length cn, .int .i64 e.template, .int .i64 e.choice, .int .i64 e.cost]
def possM (t : Tree) (e : Ed) : Bool := match getM t e.path with
  | none => false
  | some x => decide (0 ≤ e.from_) && (decide (e.from_ ≤ e.to_) && (decide (e.to_ ≤ x.kids.length) && (listB x.kind || (decide (e.to_ = e.from_ + 1) && decide (e.new.length = 1)))))

theorem getM_count : ∀ (p : List Int) (t u : Tree), getM t p = some u → countM u ≤ countM t
  | [], t, u, h => by
    simp only [getM, Option.some.injEq] at h
    rw [h]
    exact Nat.le_refl _
  | i :: p, t, u, h => by
    rw [getM] at h
    split at h
    · cases h
    · split at h
      · rename_i y hy
        have h1 := getM_count p y u h
        have h2 := countsM_mem hy
        have h3 := countM_eq t
        omega
      · cases h

set_option maxHeartbeats 4000000 in
set_option maxRecDepth 100000 in
theorem Possible_any (t : Tree) (A : Option Addr) (c : Nat) (ed : Ed) (Ap : Option Addr) (cp : Nat) (An : Option Addr) (cn : Nat) (w : World) (hm : countM t ≤ 1000000) (hk : KidsAt w w.heap.size A 0 t.kids) (hcap : t.kids.length ≤ c) (hp : IntsAt w w.heap.size Ap ed.path) (hnb : ed.path.length ≤ 1000000) :
    Calls Tryz.prog 9 #[nodeV t A c, edV ed Ap cp An cn] w fun e w' => e = .returned (.bool (possM t ed)) ∧ Below w.heap.size w w' := by
  obtain ⟨k, hkk⟩ : ∃ q, t.kind = q := ⟨_, rfl⟩
  obtain ⟨x, hx⟩ : ∃ q, t.text = q := ⟨_, rfl⟩
  obtain ⟨a, ha⟩ : ∃ q, t.at_ = q := ⟨_, rfl⟩
  obtain ⟨z, hz⟩ : ∃ q, t.end_ = q := ⟨_, rfl⟩
  obtain ⟨n, hn⟩ : ∃ q, t.kids.length = q := ⟨_, rfl⟩
  have hnv : nodeV t A c = .agg #[.int .i64 k, .string x, .int .i64 a, .int .i64 z, .slice A n c] := by unfold nodeV; rw [hkk, hx, ha, hz, hn]
  obtain ⟨path, fr, tz, new, tm, ch, co⟩ := ed
  obtain ⟨np, hnp⟩ : ∃ q, path.length = q := ⟨_, rfl⟩
  obtain ⟨nn, hnn⟩ : ∃ q, new.length = q := ⟨_, rfl⟩
  have hev : edV ⟨path, fr, tz, new, tm, ch, co⟩ Ap cp An cn = .agg #[.slice Ap np cp, .int .i64 fr, .int .i64 tz, .slice An nn cn, .int .i64 tm, .int .i64 ch, .int .i64 co] := by unfold edV; simp only [hnp, hnn]
  rw [hev]
  have hp : IntsAt w w.heap.size Ap path := hp
  have hnb : path.length ≤ 1000000 := hnb
  obtain ⟨W1, hW1⟩ : ∃ W1, w.alloc (.cells #[.int .i64 k, .string x, .int .i64 a, .int .i64 z, .slice A n c] 24) = W1 := ⟨_, rfl⟩
  have hR1 : Blk W1 w.heap.size 24 #[.int .i64 k, .string x, .int .i64 a, .int .i64 z, .slice A n c] := by rw [← hW1]; exact Blk.new w _ _
  have hb1 : Below w.heap.size w W1 := by rw [← hW1]; exact below_alloc _ _
  obtain ⟨W2, hW2⟩ : ∃ W2, W1.alloc (.cells #[.slice Ap np cp, .int .i64 fr, .int .i64 tz, .slice An nn cn, .int .i64 tm, .int .i64 ch, .int .i64 co] 30) = W2 := ⟨_, rfl⟩
  have hR2 : Blk W2 W1.heap.size 30 #[.slice Ap np cp, .int .i64 fr, .int .i64 tz, .slice An nn cn, .int .i64 tm, .int .i64 ch, .int .i64 co] := by rw [← hW2]; exact Blk.new W1 _ _
  have hb2 : Below w.heap.size w W2 := by rw [← hW2]; exact hb1.alloc hb1.size _
  have hR12 : Blk W2 w.heap.size 24 #[.int .i64 k, .string x, .int .i64 a, .int .i64 z, .slice A n c] := by rw [← hW2]; exact hR1.alloc _
  obtain ⟨g1, hg1⟩ : ∃ g1, W1.heap.size = g1 := ⟨_, rfl⟩
  rw [hg1] at hR2
  have hget := Get_any t A c Ap np cp path W2 (KidsAt.mono hb2.size _ _ _ (KidsAt.below hb2 (Nat.le_refl _) _ _ _ hk)) hcap ((hp.below hb2 (Nat.le_refl _)).mono hb2.size) hnp (by omega)
  rw [hnv] at hget
  rw [hnv]
  have HG := Lib.hid hget
  have HR2 := Lib.hid hR2
  have HB2 := Lib.hid hb2
  have HM := Lib.hid hm
  have HNP := Lib.hid (And.intro hnp hnn)
  obtain ⟨⟨t0, t1, t2, t3, t4⟩, -⟩ := hR12.five
  have e0 : W2.cell? ⟨g1, 0, none⟩ = some (.slice Ap np cp) := hR2.cell 0
  clear hR1 hb1 hR2 hb2 hR12 hget hm hk hcap hp hnb hkk hx ha hz hn hnv hev hnp hnn
  go_enter Tryz.func9, Tryz.ntmps9
  go_wp2_with (first | rw [hW1] | rw [hW2] | rw [hg1])
  clear hW1 hW2 hg1 t0 t1 t2 t3 t4 e0
  refine HG.out.mono ?_
  rintro e w3 ⟨hb3, hres⟩
  have HB3 := Lib.hid (HB2.out.trans (hb3.mono HB2.out.size))
  have HR3 := Lib.hid (HR2.out.below hb3 HR2.out.lt)
  clear hb3 HG
  rcases hres with ⟨hno, rfl⟩ | ⟨u, Au, cu, hu, hku, hcu, rfl⟩
  · have hpo : possM t ⟨path, fr, tz, new, tm, ch, co⟩ = false := by unfold possM; simp only [hno]
    have HPO := Lib.hid hpo
    obtain ⟨W4, hW4⟩ : ∃ W4, w3.alloc (.cells #[.int .i64 0, .string ⟨#[]⟩, .int .i64 0, .int .i64 0, .slice none 0 0] 24) = W4 := ⟨_, rfl⟩
    have HB4 : Hid (Below w.heap.size w W4) := Lib.hid (by rw [← hW4]; exact HB3.out.alloc HB3.out.size _)
    have hZ4 : Blk W4 w3.heap.size 24 #[.int .i64 0, .string ⟨#[]⟩, .int .i64 0, .int .i64 0, .slice none 0 0] := by rw [← hW4]; exact Blk.new w3 _ _
    obtain ⟨⟨y0, y1, y2, y3, y4⟩, v0, v1, v2, v3, v4⟩ := hZ4.five
    obtain ⟨W5, hW5, -, -, hB5⟩ := stored5 (a := .int .i64 0) (b := .string ⟨#[]⟩) (c := .int .i64 0) (d := .int .i64 0) (e := .slice none 0 0) hZ4
    have HB5 := Lib.hid (hB5 _ _ HB4.out HB3.out.size)
    obtain ⟨gu, hgu⟩ : ∃ gu, w3.heap.size = gu := ⟨_, rfl⟩
    rw [hgu] at y0 y1 y2 y3 y4 v0 v1 v2 v3 v4 hW5
    unfold zeroN
    clear hno hpo hZ4 hB5
    go_wp2_with (first | rw [hW4] | rw [hgu] | rw [hW5])
    go_ret
    exact ⟨by rw [HPO.out]; first | rfl | (simp; done), HB5.out⟩
  · obtain ⟨ku, hkku⟩ : ∃ q, u.kind = q := ⟨_, rfl⟩
    obtain ⟨nu, hnu⟩ : ∃ q, u.kids.length = q := ⟨_, rfl⟩
    have hucnt := getM_count _ _ _ hu
    have hpe : possM t ⟨path, fr, tz, new, tm, ch, co⟩ = (decide (0 ≤ fr) && (decide (fr ≤ tz) && (decide (tz ≤ (nu : Int)) && (listB ku || (decide (tz = fr + 1) && decide (nn = 1)))))) := by
      unfold possM
      simp only [hu]
      rw [hnu, hkku, HNP.out.2]
    have hnub : nu ≤ 1000000 := by
      have h1 := countM_eq u
      have h2 := counts_len u.kids
      have h3 := HM.out
      omega
    have HPE := Lib.hid hpe
    obtain ⟨W4, hW4⟩ : ∃ W4, w3.alloc (.cells #[.int .i64 ku, .string u.text, .int .i64 u.at_, .int .i64 u.end_, .slice Au nu cu] 24) = W4 := ⟨_, rfl⟩
    have hR4 : Blk W4 w3.heap.size 24 #[.int .i64 ku, .string u.text, .int .i64 u.at_, .int .i64 u.end_, .slice Au nu cu] := by rw [← hW4]; exact Blk.new w3 _ _
    have hb4 : Below w3.heap.size w3 W4 := by rw [← hW4]; exact below_alloc _ _
    have HB4 : Hid (Below w.heap.size w W4) := Lib.hid (HB3.out.trans (hb4.mono HB3.out.size))
    have hE4 := HR3.out.below hb4 HR3.out.lt
    have e1 : W4.cell? ⟨g1, 1, none⟩ = some (.int .i64 fr) := hE4.cell 1
    have e2 : W4.cell? ⟨g1, 2, none⟩ = some (.int .i64 tz) := hE4.cell 2
    have e3 : W4.cell? ⟨g1, 3, none⟩ = some (.slice An nn cn) := hE4.cell 3
    have u0 : W4.cell? ⟨w3.heap.size, 0, none⟩ = some (.int .i64 ku) := hR4.cell 0
    have u4 : W4.cell? ⟨w3.heap.size, 4, none⟩ = some (.slice Au nu cu) := hR4.cell 4
    obtain ⟨gu, hgu⟩ : ∃ gu, w3.heap.size = gu := ⟨_, rfl⟩
    rw [hgu] at u0 u4
    have HLS := Lib.hid (List_any ku W4)
    have HE4 := Lib.hid hE4
    have hnv2 : nodeV u Au cu = .agg #[.int .i64 ku, .string u.text, .int .i64 u.at_, .int .i64 u.end_, .slice Au nu cu] := by unfold nodeV; rw [hkku, hnu]
    rw [hnv2]
    obtain ⟨ux, hux⟩ : ∃ q, u.text = q := ⟨_, rfl⟩
    obtain ⟨ua, hua⟩ : ∃ q, u.at_ = q := ⟨_, rfl⟩
    obtain ⟨uz, huz⟩ : ∃ q, u.end_ = q := ⟨_, rfl⟩
    rw [hux, hua, huz] at hW4 ⊢
    clear hu hku hcu hkku hnu hucnt hpe hR4 hb4 hE4 hnv2 hux hua huz
    by_cases h1 : 0 ≤ fr
    · by_cases h2 : fr ≤ tz
      · by_cases h3 : tz ≤ (nu : Int)
        · go_wp2_with (first | rw [hW4] | rw [hgu])
          refine HLS.out.mono ?_
          rintro e w5 ⟨rfl, hb5⟩
          have HB5 := Lib.hid (HB4.out.trans (hb5.mono HB4.out.size))
          have hE5 := HE4.out.below hb5 HE4.out.lt
          have e1 : w5.cell? ⟨g1, 1, none⟩ = some (.int .i64 fr) := hE5.cell 1
          have e2 : w5.cell? ⟨g1, 2, none⟩ = some (.int .i64 tz) := hE5.cell 2
          have e3 : w5.cell? ⟨g1, 3, none⟩ = some (.slice An nn cn) := hE5.cell 3
          clear hb5 hE5 hW4 hgu
          cases hl : listB ku with
          | true =>
            have HPO : Hid (possM t ⟨path, fr, tz, new, tm, ch, co⟩ = true) := Lib.hid (by rw [HPE.out]; simp [h1, h2, h3, hl])
            go_wp2_with fail
            go_ret
            exact ⟨by rw [HPO.out]; first | rfl | (simp; done) | (simp [*]; done) | (simp; omega), HB5.out⟩
          | false =>
            have hwr : IntKind.i64.wrap (fr + 1) = fr + 1 := IntWalk.i64_in _ (by omega)
            by_cases h4 : tz = fr + 1
            · by_cases h5 : nn = 1
              · have HPO : Hid (possM t ⟨path, fr, tz, new, tm, ch, co⟩ = true) := Lib.hid (by rw [HPE.out]; simp [h1, hl, h4, h5]; omega)
                go_wp2_with fail
                go_ret
                exact ⟨by rw [HPO.out]; first | rfl | (simp; done) | (simp [*]; done) | (simp; omega), HB5.out⟩
              · have h5i : ¬ (nn : Int) = 1 := by omega
                have HPO : Hid (possM t ⟨path, fr, tz, new, tm, ch, co⟩ = false) := Lib.hid (by rw [HPE.out]; simp [h1, hl, h4, h5])
                go_wp2_with fail
                go_ret
                exact ⟨by rw [HPO.out]; first | rfl | (simp; done) | (simp [*]; done) | (simp; omega), HB5.out⟩
            · have HPO : Hid (possM t ⟨path, fr, tz, new, tm, ch, co⟩ = false) := Lib.hid (by rw [HPE.out]; simp [h1, h2, h3, hl, h4])
              go_wp2_with fail
              go_ret
              exact ⟨by rw [HPO.out]; first | rfl | (simp; done) | (simp [*]; done) | (simp; omega), HB5.out⟩
        · have HPO : Hid (possM t ⟨path, fr, tz, new, tm, ch, co⟩ = false) := Lib.hid (by rw [HPE.out]; simp [h1, h2, h3])
          go_wp2_with (first | rw [hW4] | rw [hgu])
          go_ret
          exact ⟨by rw [HPO.out]; first | rfl | (simp; done) | (simp [*]; done) | (simp; omega), HB4.out⟩
      · have HPO : Hid (possM t ⟨path, fr, tz, new, tm, ch, co⟩ = false) := Lib.hid (by rw [HPE.out]; simp [h1, h2])
        go_wp2_with (first | rw [hW4] | rw [hgu])
        go_ret
        exact ⟨by rw [HPO.out]; first | rfl | (simp; done) | (simp [*]; done) | (simp; omega), HB4.out⟩
    · have HPO : Hid (possM t ⟨path, fr, tz, new, tm, ch, co⟩ = false) := Lib.hid (by rw [HPE.out]; simp [h1])
      go_wp2_with (first | rw [hW4] | rw [hgu])
      go_ret
      exact ⟨by rw [HPO.out]; first | rfl | (simp; done) | (simp [*]; done) | (simp; omega), HB4.out⟩
end Go.Proofs.YtfkdkbekmimhoaaGreatDoor
/- slices.Clone of nodes; tree.copied: walked. -/
namespace Go.Proofs.YtfkdkbekmimhoaaGreatDoor
open Go.RowKit

/-- The cells of a row of trees. -/
theorem KidsAt.vals {w : World} {B : Nat} {A : Option Addr} : ∀ {ts : List Tree} {i : Nat}, KidsAt w B A i ts → ∃ vals : List (List Value), vals.length = ts.length ∧ (∀ v ∈ vals, v.length = 5) ∧ (∀ j v, vals[j]? = some v → CellsAt w B A (i + j) v) ∧ ∀ (j : Nat) (t : Tree) (v : List Value), ts[j]? = some t → vals[j]? = some v → TreeAt w B t v
  | [], i, _ => ⟨[], rfl, by simp, by simp, by simp⟩
  | t :: ts, i, h => by
    obtain ⟨⟨b, off, v, h1, h2, h3, h4⟩, h5⟩ := h
    obtain ⟨vals, q1, q2, q3, q4⟩ := KidsAt.vals h5
    refine ⟨v :: vals, by simp [q1], fun u hu => ?_, fun j u hu => ?_, fun j t' u ht hu => ?_⟩
    · rcases List.mem_cons.1 hu with rfl | hu
      · obtain ⟨A', c', h6, -⟩ := h4.five
        rw [h6]; rfl
      · exact q2 u hu
    · cases j with
      | zero =>
        simp at hu
        subst hu
        exact ⟨b, off, h1, h2, h3⟩
      | succ j =>
        have := q3 j u (by simpa using hu)
        rw [show i + (j + 1) = i + 1 + j by omega]
        exact this
    · cases j with
      | zero =>
        simp at ht hu
        subst ht hu
        exact h4
      | succ j => exact q4 j t' u (by simpa using ht) (by simpa using hu)
theorem flat_len : ∀ {vals : List (List Value)}, (∀ v ∈ vals, v.length = 5) → (List.flatten vals).length = vals.length * 5
  | [], _ => rfl
  | v :: vals, h => by
    have h1 := flat_len (vals := vals) fun u hu => h u (List.mem_cons_of_mem _ hu)
    have h2 := h v List.mem_cons_self
    simp only [List.flatten_cons, List.length_append, List.length_cons]
    omega
theorem flat_at : ∀ {vals : List (List Value)}, (∀ v ∈ vals, v.length = 5) → ∀ {j : Nat} {u : Value}, (List.flatten vals)[j]? = some u → ∃ i q v, j = i * 5 + q ∧ vals[i]? = some v ∧ v[q]? = some u
  | [], _, j, u, h => by simp at h
  | v :: vals, hl, j, u, h => by
    have h2 := hl v List.mem_cons_self
    rw [List.flatten_cons] at h
    by_cases hj : j < v.length
    · rw [List.getElem?_append_left hj] at h
      exact ⟨0, j, v, by omega, rfl, h⟩
    · rw [List.getElem?_append_right (by omega), h2] at h
      obtain ⟨i, q, y, h3, h4, h5⟩ := flat_at (vals := vals) (fun u hu => hl u (List.mem_cons_of_mem _ hu)) h
      exact ⟨i + 1, q, y, by rw [h2] at hj; omega, by simpa using h4, h5⟩
theorem flat_set : ∀ {vals : List (List Value)} {i q : Nat} {v : List Value} {u : Value}, (∀ v ∈ vals, v.length = 5) → vals[i]? = some v → q < 5 → List.flatten (vals.set i (v.set q u)) = (List.flatten vals).set (i * 5 + q) u
  | [], i, q, v, u, _, h, _ => by simp at h
  | y :: vals, 0, q, v, u, hl, h, hq => by
    simp at h
    subst h
    have h2 := hl y List.mem_cons_self
    simp only [List.set_cons_zero, List.flatten_cons, Nat.zero_mul, Nat.zero_add]
    rw [List.set_append_left _ _ (by omega)]
  | y :: vals, i + 1, q, v, u, hl, h, hq => by
    have h2 := hl y List.mem_cons_self
    have h3 := flat_set (vals := vals) (u := u) (fun u hu => hl u (List.mem_cons_of_mem _ hu)) (by simpa using h) hq
    simp only [List.set_cons_succ, List.flatten_cons]
    rw [List.set_append_right _ _ (by omega), h3, h2]
    congr 2
    omega

theorem OwnS.set {w : World} {base : Nat} {e : TypeId} {size g off n cap : Nat} {xs : List Value} (h : OwnS w base e size (.slice (some ⟨g, off, none⟩) n cap) n xs) (j : Nat) (_hj : j < n * size) (u : Value) : OwnS (w.setCell ⟨g, off + j, none⟩ u) base e size (.slice (some ⟨g, off, none⟩) n cap) n (xs.set j u) := by
  refine ⟨by rw [List.length_set]; exact h.1, .inr ?_⟩
  rcases h.2 with ⟨h0, -⟩ | ⟨g', off', cap', cur, hv, hb, hg, hn, hm, hs, ht⟩
  · cases h0
  · cases hv
    refine ⟨g, off, cap, cur.setIfInBounds (off + j) u, rfl, hb, heap_setCell_same w g (off + j) cur e u hg, hn, hm, by simpa using hs, ?_⟩
    rw [← ht, Array.toList_setIfInBounds, List.drop_set, if_neg (by omega), Nat.add_sub_cancel_left, List.take_set]

section
variable {P : Program} {t e : TypeId}
theorem eql_slice_nil (n c : Nat) (w : World) (h : P.underlying t = some (.slice e)) : (binOp BinOp.eql t (.slice none n c) (.slice none 0 0)).run P w = .ok (.bool true) w := by
  have h1 : ∀ d, (Op.equalIn (d + 1) t (.slice none n c) (.slice none 0 0)).run P w = .ok true w := fun d => by simp [Op.equalIn, run_underlying h]
  simp only [binOp]
  simp [Op.equal, Op.maxDepth, h1 9999]
theorem eql_slice_some (a : Addr) (n c : Nat) (w : World) (h : P.underlying t = some (.slice e)) : (binOp BinOp.eql t (.slice (some a) n c) (.slice none 0 0)).run P w = .ok (.bool false) w := by
  have h1 : ∀ d, (Op.equalIn (d + 1) t (.slice (some a) n c) (.slice none 0 0)).run P w = .ok false w := fun d => by simp [Op.equalIn, run_underlying h]
  simp only [binOp]
  simp [Op.equal, Op.maxDepth, h1 9999]
end

def CloneRes (w : World) (n : Nat) (vals : List (List Value)) (e : Ending) (w' : World) : Prop := ∃ A c, e = .returned (.slice A n c) ∧ OwnS w' w.heap.size 24 5 (.slice A n c) n (List.flatten vals) ∧ Below w.heap.size w w'

set_option maxHeartbeats 4000000 in
set_option maxRecDepth 100000 in
theorem CloneN_any (A : Option Addr) (n c : Nat) (vals : List (List Value)) (w : World) (hn : vals.length = n) (hl : ∀ v ∈ vals, v.length = 5) (hc : ∀ j v, vals[j]? = some v → CellsAt w w.heap.size A j v) (h1 : ∀ v ∈ vals, ∀ u ∈ v, u.oneCell' = true) (hnb : n ≤ 1000000) (h0 : A = none → n = 0) :
    Calls Tryz.prog 170 #[.slice A n c] w (CloneRes w n vals) := by
  obtain ⟨i0, hi0, hz0, hz1, hz2⟩ := info_parts node_info
  cases A with
  | none =>
    have hn0 := h0 rfl
    subst hn0
    have hv : vals = [] := List.eq_nil_of_length_eq_zero hn
    subst hv
    go_enter Tryz.func170, Tryz.ntmps170
    go_wp2_with (rw [eql_slice_nil _ _ _ Tryz.underlying22])
    go_ret
    exact ⟨none, 0, rfl, OwnS.nil _ _ _ _, Below.refl _ _⟩
  | some ad =>
    obtain ⟨W1, hW1⟩ : ∃ W1, w.alloc (.cells #[] 24) = W1 := ⟨_, rfl⟩
    have hO : OwnS W1 w.heap.size 24 5 (.slice (some ⟨w.heap.size, 0, none⟩) 0 0) 0 [] := by
      have hb := Blk.new w 24 #[]
      rw [hW1] at hb
      exact OwnS.block (n := 0) (cur := #[]) (Nat.le_refl _) hb (by simp [maxLen]) rfl
    have hb1 : Below w.heap.size w W1 := by rw [← hW1]; exact below_alloc _ _
    have hnews : ∀ j u, (List.flatten vals)[j]? = some u → W1.cell? (ad.add j) = some u := fun j u hj => by
      obtain ⟨i, q, v, rfl, hv, hq⟩ := flat_at hl hj
      obtain ⟨b', off', h2, h3, h4⟩ := hc i v hv
      cases h2
      rw [Addr.add_lit, ← Nat.add_assoc]
      exact (hb1.cell (p := ⟨b', _, none⟩) h3).trans (h4 q u hq)
    have hone : ∀ u ∈ List.flatten vals, u.oneCell' = true := fun u hu => by
      obtain ⟨v, hv, hu⟩ := List.mem_flatten.1 hu
      exact h1 v hv u hu
    have HO := Lib.hid hO
    have HN := Lib.hid hnews
    have H1 := Lib.hid hone
    have HL : Hid ((List.flatten vals).length = n * 5) := Lib.hid (by rw [flat_len hl, hn])
    have HB1 := Lib.hid hb1
    have hlo : w.heap.size ≤ W1.heap.size := hb1.size
    clear hO hnews hone hb1 hc h1 hl
    go_enter Tryz.func170, Tryz.ntmps170
    go_wp2_with (first | rw [hW1] | rw [eql_slice_some _ _ _ _ Tryz.underlying22] | (at_builtin; go_must (refine wpList_append_S _ rfl (.tmp 5) (.tmp 6) _ rfl (w.heap.size) 24 i0 _ 5 64 Tryz.underlying22 hi0 hz0 hz1 hz2 rfl (.slice (some ⟨w.heap.size, 0, none⟩) 0 0) 0 [] rfl HO.out ad n c (List.flatten vals) rfl HL.out HN.out H1.out (by simp only [maxLen]; omega) (by omega) hlo ?_); intro vn w7 hown hgrow hat; obtain ⟨A8, c8, hvn, -, -⟩ := hown.shape; subst hvn; have HOWN := Lib.hid hown; have HGROW := Lib.hid hgrow; clear hown hgrow hat))
    go_ret
    have hb7 : Below w.heap.size w w7 := HB1.out.grown HGROW.out hlo (fun k hk => (HO.out.lt k hk).1)
    have ho := HOWN.out
    rw [List.nil_append] at ho
    refine ⟨A8, c8, ?_, ?_, hb7⟩
    · simp
    · simpa using ho

/-- A row of trees of the call's own is returned. -/
def RowRes (w : World) (ts : List Tree) (e : Ending) (w' : World) : Prop := ∃ A c, e = .returned (.slice A ts.length c) ∧ KidsOwn w' w.heap.size (.slice A ts.length c) ts.length ts ∧ Below w.heap.size w w'

theorem take_snoc {α : Type} {l : List α} {i : Nat} {x : α} (h : l[i]? = some x) : l.take (i + 1) = l.take i ++ [x] := by
  rw [List.take_add_one, h]
  rfl

set_option maxHeartbeats 4000000 in
set_option maxRecDepth 100000 in
theorem copiedK_any : ∀ (m : Nat) (ts : List Tree) (A : Option Addr) (c : Nat) (w : World), countsM ts ≤ m → m ≤ 1000000 → KidsAt w w.heap.size A 0 ts →
    Calls Tryz.prog 102 #[.slice A ts.length c] w (RowRes w ts) := by
  intro m
  induction m using Nat.strongRecOn with
  | ind m ih =>
    intro ts A c w hm hbig hk
    obtain ⟨vals, hvl, hv5, hvc, hvt⟩ := hk.vals
    obtain ⟨n, hn⟩ : ∃ n, ts.length = n := ⟨_, rfl⟩
    have hcl := counts_len ts
    have hcn := CloneN_any A n c vals w (by omega) hv5 (fun j v hj => by have := hvc j v hj; rwa [Nat.zero_add] at this) (fun v hv u hu => by
      obtain ⟨j, hj⟩ := List.mem_iff_getElem?.1 hv
      obtain ⟨t, ht⟩ : ∃ t, ts[j]? = some t := ⟨_, List.getElem?_eq_getElem (by rw [← hvl]; exact (List.getElem?_eq_some_iff.1 hj).1)⟩
      obtain ⟨A', c', h6, -⟩ := (hvt j t v ht hj).five
      rw [h6] at hu
      simp at hu
      rcases hu with rfl | rfl | rfl | rfl | rfl <;> rfl) (by omega) (fun h => by
        cases ts with
        | nil => simpa using hn.symm
        | cons t ts =>
          obtain ⟨⟨b, off, _, h1, -⟩, -⟩ := hk
          rw [h] at h1
          cases h1)
    unfold RowRes
    rw [hn]
    have HC := Lib.hid hcn
    have HV := Lib.hid (And.intro hvl (And.intro hv5 hvt))
    have HN := Lib.hid hn
    have HIH := Lib.hid ih
    have HM : Hid (countsM ts ≤ m ∧ m ≤ 1000000) := Lib.hid ⟨hm, by omega⟩
    have hnb : n ≤ 1000000 := by omega
    clear hk hvl hv5 hvc hvt hcl hcn ih hm hbig hn
    go_enter Tryz.func102, Tryz.ntmps102
    go_wp2_with fail
    refine HC.out.mono ?_
    rintro e w1 ⟨A1, c1, rfl, hO, hb1⟩
    have hsh := hO.shape
    obtain ⟨A', c', hq, hcap, -⟩ := hsh
    cases hq
    have HO := Lib.hid hO
    have HB1 := Lib.hid hb1
    clear hO hb1
    go_wp2_with fail
    go_loopg [9] n (fun gk s9 wr => ∃ (i : Nat) (vs : List (List Value)), i + gk = n ∧ s9 = .int .i64 (i : Int) ∧ Hid (OwnS wr w.heap.size 24 5 (.slice A1 n c1) n (List.flatten vs) ∧ vs.length = n ∧ (∀ v ∈ vs, v.length = 5) ∧ TreesOwn wr (fun g => w.heap.size ≤ g ∧ some g ≠ (Value.slice A1 n c1).ownBlock) (ts.take i) (vs.take i) ∧ (∀ j, i ≤ j → vs[j]? = vals[j]?) ∧ Below w.heap.size w wr))
    case atStart => exact ⟨0, vals, by omega, rfl, Lib.hid ⟨HO.out, by rw [HV.out.1, HN.out], HV.out.2.1, rfl, fun j _ => rfl, HB1.out⟩⟩
    case round =>
      obtain ⟨i, vs, hi, rfl, HS⟩ := hrel
      have hin : i ≤ n := by omega
      have HI := Lib.hid hi
      clear hi
      by_cases hlt : i < n
      · have hlt' : (i : Int) < (n : Int) := by omega
        obtain ⟨hO, hvl, hv5, hTs, hrest, hB⟩ := HS.out
        obtain ⟨u, hu⟩ : ∃ u, ts[i]? = some u := ⟨_, List.getElem?_eq_getElem (by rw [HN.out]; exact hlt)⟩
        obtain ⟨v, hv⟩ : ∃ v, vs[i]? = some v := ⟨_, List.getElem?_eq_getElem (by rw [hvl]; exact hlt)⟩
        have hT := HV.out.2.2 i u v hu ((hrest i (Nat.le_refl _)).symm.trans hv)
        have hcu := countsM_mem hu
        have hce := countM_eq u
        obtain ⟨Ak, ck, hvv, hK⟩ := hT.five
        obtain ⟨g, off, cap, hA1, -, -, hlo, hgl, hcs⟩ := hO.form (by omega)
        cases hA1
        have hcell := hcs (i * 5 + 4) (.slice Ak u.kids.length ck) (flatten_get vs hv5 i 4 v _ hv (by rw [hvv]; rfl))
        rw [← Nat.add_assoc] at hcell
        have hcall := HIH.out (countsM u.kids) (by have := HM.out; omega) u.kids Ak ck wr (Nat.le_refl _) (by have := HM.out; omega) (KidsAt.mono hB.size _ _ _ (KidsAt.below hB (Nat.le_refl _) _ _ _ hK))
        unfold RowRes at hcall
        obtain ⟨nk, hnk⟩ : ∃ q, u.kids.length = q := ⟨_, rfl⟩
        rw [hnk] at hcell hcall hvv
        have HCALL := Lib.hid hcall
        have HU := Lib.hid (And.intro hu (And.intro hv (And.intro hvv hnk)))
        have HG : Hid (w.heap.size ≤ g ∧ g < wr.heap.size) := Lib.hid ⟨hlo, hgl⟩
        clear hO hvl hv5 hTs hrest hB hu hv hT hcu hce hK hcs hcall hvv hnk hlo
        go_wp2_with fail
        refine HCALL.out.mono ?_
        rintro e w4 ⟨A4, c4, rfl, hK4, hb4⟩
        have hcell4 : w4.cell? ⟨g, off + i * 5 + 4, none⟩ = some (.slice Ak nk ck) := (hb4.cell (p := ⟨g, _, none⟩) HG.out.2).trans hcell
        obtain ⟨hO, hvl, hv5, hTs, hrest, hB⟩ := HS.out
        have hO4 : OwnS w4 w.heap.size 24 5 (.slice (some ⟨g, off, none⟩) n c1) n (List.flatten vs) := hO.below hb4 (fun q hq => (hO.lt q hq).2)
        have hfz : w4.frozen? ⟨g, off + i * 5 + 4, none⟩ = false := by
          rcases hO4.2 with ⟨h0, -⟩ | ⟨g', off', cap', cur, hv', -, hg', -⟩
          · cases h0
          · cases hv'
            exact Blk.frozen (cs := cur) hg' _
        obtain ⟨W5, hW5⟩ : ∃ W5, w4.setCell ⟨g, off + i * 5 + 4, none⟩ (.slice A4 nk c4) = W5 := ⟨_, rfl⟩
        have HN5 : Hid (OwnS W5 w.heap.size 24 5 (.slice (some ⟨g, off, none⟩) n c1) n (List.flatten (vs.set i (v.set 4 (.slice A4 nk c4)))) ∧ (vs.set i (v.set 4 (.slice A4 nk c4))).length = n ∧ (∀ v' ∈ vs.set i (v.set 4 (.slice A4 nk c4)), v'.length = 5) ∧ TreesOwn W5 (fun q => w.heap.size ≤ q ∧ some q ≠ (Value.slice (some ⟨g, off, none⟩) n c1).ownBlock) (ts.take (i + 1)) ((vs.set i (v.set 4 (.slice A4 nk c4))).take (i + 1)) ∧ (∀ j, i + 1 ≤ j → (vs.set i (v.set 4 (.slice A4 nk c4)))[j]? = vals[j]?) ∧ Below w.heap.size w W5) := Lib.hid (by
          obtain ⟨hu, hv, hvv, hnk⟩ := HU.out
          have hil : i < vs.length := by omega
          have hv5i : v.length = 5 := hv5 v (List.mem_of_getElem? hv)
          have hkeep : KeepsN (fun q => some q ≠ (Value.slice (some ⟨g, off, none⟩) n c1).ownBlock) w4 W5 := fun q cs hq _ => by
            rw [← hW5]
            exact Below.heap_setCell w4 ⟨g, _, none⟩ _ q (fun e => hq (by rw [e]; rfl))
          refine ⟨?_, by rw [List.length_set]; exact hvl, fun v' hv' => ?_, ?_, fun j hj => ?_, ?_⟩
          · rw [flat_set hv5 hv (by omega), ← hW5, Nat.add_assoc]
            exact hO4.set (i * 5 + 4) (by omega) _
          · rcases List.mem_or_eq_of_mem_set hv' with h | h
            · exact hv5 v' h
            · rw [h, List.length_set]; exact hv5i
          · rw [take_snoc hu, take_snoc (l := vs.set i (v.set 4 (.slice A4 nk c4))) (x := v.set 4 (.slice A4 nk c4)) (by rw [List.getElem?_set_self hil]), List.take_set_of_le (Nat.le_refl _)]
            refine TreesOwn.snoc (TreesOwn.keeps (fun q cs hq hcs => hkeep q cs hq.2 hcs) _ _ (TreesOwn.keeps (KeepsN.of_below hb4) _ _ hTs)) ?_
            have hnd := hK4.node u.kind u.text u.at_ u.end_
            have hue : Tree.node u.kind u.text u.at_ u.end_ u.kids = u := by cases u; rfl
            rw [hue] at hnd
            rw [hvv]
            have hnd2 : TreeOwn w4 (fun q => w.heap.size ≤ q ∧ some q ≠ (Value.slice (some ⟨g, off, none⟩) n c1).ownBlock) u [.int .i64 u.kind, .string u.text, .int .i64 u.at_, .int .i64 u.end_, .slice A4 nk c4] := TreeOwn.weak (fun q _ hq => ⟨by have := hB.size; omega, fun e => by
              have e2 : q = g := by simpa [Value.ownBlock] using e
              have := HG.out.2
              omega⟩) _ _ hnd
            exact TreeOwn.keeps (fun q cs hq hcs => hkeep q cs hq.2 hcs) _ _ hnd2
          · rw [List.getElem?_set_ne (by omega)]
            exact hrest j (by omega)
          · rw [← hW5]
            exact (hB.trans (hb4.mono hB.size)).setCell HG.out.1 _)
        clear hO hvl hv5 hTs hrest hB hO4 hb4 hK4 hcell HS
        go_wp2_with (rw [hW5])
        go_roundg (gk - 1)
        case measure => have := HI.out; omega
        case rel => exact ⟨i + 1, _, by have := HI.out; omega, by simp, HN5⟩
      · have hie : i = n := by omega
        subst hie
        go_wp2_with fail
        go_ret
        obtain ⟨h1, h2, h3, h4, -, h5⟩ := HS.out
        rw [List.take_of_length_le (by rw [HN.out]; exact Nat.le_refl _), List.take_of_length_le (by rw [h2]; exact Nat.le_refl _)] at h4
        exact ⟨A1, c1, rfl, ⟨vs, h1, h4, HN.out⟩, h5⟩
end Go.Proofs.YtfkdkbekmimhoaaGreatDoor
/- slices.Concat of nodes, walked. -/
namespace Go.Proofs.YtfkdkbekmimhoaaGreatDoor
open Go.RowKit

set_option maxHeartbeats 4000000 in
set_option maxRecDepth 100000 in
theorem Grow_zero (w : World) : Calls Tryz.prog 171 #[.slice none 0 0, .int .i64 0] w fun e w' => e = .returned (.slice none 0 0) ∧ w' = w := by
  go_enter Tryz.func171, Tryz.ntmps171
  go_wp2_with fail
  go_ret
  exact ⟨rfl, rfl⟩

theorem Grow_own (n : Nat) (w : World) (hn : n ≤ 1000000) : Calls Tryz.prog 171 #[.slice none 0 0, .int .i64 (n : Int)] w (CloneRes w 0 []) := by
  rcases Nat.eq_zero_or_pos n with rfl | h
  · exact (Grow_zero w).mono fun e w' ⟨h1, h2⟩ => ⟨none, 0, h1, by rw [h2]; exact OwnS.nil _ _ _ _, by rw [h2]; exact Below.refl _ _⟩
  · refine (Grow_any n w h hn).mono ?_
    rintro e w' ⟨hb, g, cur, c, rfl, h1, h2, h3, h4, h5⟩
    exact ⟨_, c, rfl, ⟨by simp, .inr ⟨g, 0, c, cur, rfl, h1, h3, Nat.zero_le _, by unfold maxLen; omega, by omega, by simp⟩⟩, hb⟩

theorem run_append_nilarg {P : Program} {t ty e : TypeId} {i : TypeInfo} (ht : P.underlying t = some (.slice e)) (hi : P.info? e = some i) (A : Option Addr) (n c c2 : Nat) (hc : n ≤ c) (w : World) :
    (Builtin.append_ #[t, t] ty #[.slice A n c, .slice none 0 c2]).run P w = .ok (.slice A n c) w := by
  cases A <;> simp [Builtin.append_, run_underlying ht, sizeOf, typeInfo, hi, Builtin.lenOf, Builtin.firstCells, hc, storeCells]

theorem wpList_append_0 {P : Program} {w : World} {ops : Array Oper} {rest : List Oper} {o : Oper} {a : Act} {Q : Exit → Act → World → Prop} (hgd : o.guard = none) (s x : Operand) (t : TypeId)
    (ho : o.op = .call { callee := .builtin .append, args := #[s, x], argTypes := #[t, t] }) (e : TypeId) (i : TypeInfo) (ht : P.underlying t = some (.slice e)) (hi : P.info? e = some i)
    (A : Option Addr) (n c c2 : Nat) (hc : n ≤ c) (hs : a.eval s = .slice A n c) (hx : a.eval x = .slice none 0 c2) (h : wpList P ops Q rest (a.put o.dst (.slice A n c)) w) : wpList P ops Q (o :: rest) a w :=
  wpList_plain hgd fun K hK => by
    have hr := run_append_nilarg (P := P) (ty := o.type) ht hi A n c c2 hc w
    unfold Oper.wp execOp
    simp only [ho, resolve, invoke, builtin, Sem.run_bind, Sem.run_pure, Result.andThen_ok, List.map_toArray, List.map_cons, List.map_nil, hs, hx, hr]
    exact hK _ _ h

/-- A row that is joined to others. -/
structure CR where
  A : Option Addr
  n : Nat
  c : Nat
  vals : List (List Value)
def CR.ok (w : World) (r : CR) : Prop := r.vals.length = r.n ∧ (∀ v ∈ r.vals, v.length = 5) ∧ (∀ j v, r.vals[j]? = some v → CellsAt w w.heap.size r.A j v) ∧ (∀ v ∈ r.vals, ∀ u ∈ v, u.oneCell' = true) ∧ (r.A = none → r.n = 0)
def sumN : List CR → Nat
  | [] => 0
  | r :: rs => r.n + sumN rs
theorem sumN_take {rs : List CR} : ∀ {i : Nat} {r : CR}, rs[i]? = some r → sumN (rs.take (i + 1)) = sumN (rs.take i) + r.n := by
  induction rs with
  | nil => intro i r h; simp at h
  | cons a rs ih =>
    intro i r h
    cases i with
    | zero => simp at h; subst h; simp [sumN]
    | succ i =>
      have := ih (i := i) (r := r) (by simpa using h)
      simp only [List.take_succ_cons, sumN]
      omega
theorem sumN_le {rs : List CR} : ∀ i, sumN (rs.take i) ≤ sumN rs := by
  induction rs with
  | nil => intro i; simp
  | cons a rs ih =>
    intro i
    cases i with
    | zero => simp [sumN]
    | succ i =>
      have := ih i
      simp only [List.take_succ_cons, sumN]
      omega
theorem CR.flat_len {w : World} {r : CR} (h : r.ok w) : (List.flatten r.vals).length = r.n * 5 := by rw [Proofs.YtfkdkbekmimhoaaGreatDoor.flat_len h.2.1, h.1]

set_option maxHeartbeats 4000000 in
set_option maxRecDepth 100000 in
theorem Concat_any (gB oB m cB : Nat) (rs : List CR) (w : World) (hm : rs.length = m) (hB : gB < w.heap.size) (hcell : ∀ j r, rs[j]? = some r → w.cell? ⟨gB, oB + j, none⟩ = some (.slice r.A r.n r.c)) (hok : ∀ r ∈ rs, r.ok w) (hsum : sumN rs ≤ 1000000) (hmb : m ≤ 1000) :
    Calls Tryz.prog 103 #[.slice (some ⟨gB, oB, none⟩) m cB] w (CloneRes w (sumN rs) (rs.flatMap CR.vals)) := by
  obtain ⟨i0, hi0, hz0, hz1, hz2⟩ := info_parts node_info
  have HC := Lib.hid hcell
  have HOK := Lib.hid hok
  have HM := Lib.hid hm
  have HSUM := Lib.hid hsum
  clear hcell hok hm hsum
  go_enter Tryz.func103, Tryz.ntmps103
  go_wp2_with fail
  go_loopg [3, 11] m (fun gk s3 s11 wr => ∃ i : Nat, i + gk = m ∧ s3 = .int .i64 (sumN (rs.take i) : Int) ∧ s11 = .int .i64 (i : Int) ∧ wr = w)
  case atStart => exact ⟨0, by omega, by simp [sumN], rfl, rfl⟩
  case round =>
    obtain ⟨i, hi, rfl, rfl, rfl⟩ := hrel
    have hin : i ≤ m := by omega
    have HI := Lib.hid hi
    clear hi
    by_cases hlt : i < m
    · have hlt' : (i : Int) < (m : Int) := by omega
      obtain ⟨r, hr⟩ : ∃ r, rs[i]? = some r := ⟨_, List.getElem?_eq_getElem (by rw [HM.out]; exact hlt)⟩
      have hcl := HC.out i r hr
      have hst := sumN_take hr
      have hsl := sumN_le (rs := rs) (i + 1)
      obtain ⟨S, hS⟩ : ∃ S, sumN (rs.take i) = S := ⟨_, rfl⟩
      rw [hS] at hst ⊢
      have hsb : S + r.n ≤ 1000000 := by have := HSUM.out; omega
      have hw : IntKind.i64.wrap ((S : Int) + (r.n : Int)) = (S : Int) + (r.n : Int) := IntWalk.i64_in _ (by omega)
      have hpos : ¬ ((S : Int) + (r.n : Int)) < 0 := by omega
      have HST := Lib.hid hst
      obtain ⟨rn, hrn⟩ : ∃ q, r.n = q := ⟨_, rfl⟩
      rw [hrn] at hcl hw hpos
      have HRN := Lib.hid hrn
      clear hr hst hsl hS hrn
      go_wp2_with fail
      go_roundg (gk - 1)
      case measure => have := HI.out; omega
      case rel => exact ⟨i + 1, by have := HI.out; omega, by rw [HST.out, HRN.out]; simp, by simp, rfl⟩
    · have hie : i = m := by omega
      subst hie
      have hall : rs.take i = rs := List.take_of_length_le (by rw [HM.out]; exact Nat.le_refl _)
      rw [hall]
      have HG := Lib.hid (Grow_own (sumN rs) wr HSUM.out)
      clear hall
      go_wp2_with fail
      refine HG.out.mono ?_
      rintro e w1 ⟨A1, c1, rfl, hO, hb1⟩
      have HO := Lib.hid hO
      have HB1 := Lib.hid hb1
      clear hO hb1
      obtain ⟨wo, hwo⟩ : ∃ wo : World, wo = wr := ⟨_, rfl⟩
      subst hwo
      obtain ⟨gko, hgko⟩ : ∃ g : Nat, g = gk := ⟨_, rfl⟩
      subst hgko
      go_wp2_with fail
      go_loopg [6, 27] i (fun gk s6 s27 wr => ∃ (j : Nat) (A6 : Option Addr) (c6 : Nat), j + gk = i ∧ s6 = .slice A6 (sumN (rs.take j)) c6 ∧ s27 = .int .i64 (j : Int) ∧ Hid (OwnS wr wo.heap.size 24 5 (.slice A6 (sumN (rs.take j)) c6) (sumN (rs.take j)) (List.flatten ((rs.take j).flatMap CR.vals)) ∧ Below wo.heap.size wo wr))
      case atStart => exact ⟨0, A1, c1, by omega, by simp [sumN], rfl, Lib.hid ⟨by simpa [sumN] using HO.out, HB1.out⟩⟩
      case round =>
        obtain ⟨j, A6, c6, hj, rfl, rfl, HS⟩ := hrel
        have hjn : j ≤ i := by omega
        have HJ := Lib.hid hj
        clear hj
        by_cases hltj : j < i
        · have hltj' : (j : Int) < (i : Int) := by omega
          obtain ⟨r, hr⟩ : ∃ r, rs[j]? = some r := ⟨_, List.getElem?_eq_getElem (by rw [HM.out]; exact hltj)⟩
          have hcl : wr.cell? ⟨gB, oB + j, none⟩ = some (.slice r.A r.n r.c) := (HS.out.2.cell (p := ⟨gB, _, none⟩) hB).trans (HC.out j r hr)
          have hst := sumN_take hr
          have hsl := sumN_le (rs := rs) (j + 1)
          have htk := take_snoc hr
          have hro := HOK.out r (List.mem_of_getElem? hr)
          have hgb : gB < wr.heap.size := Nat.lt_of_lt_of_le hB HS.out.2.size
          have hflat : List.flatten ((rs.take (j + 1)).flatMap CR.vals) = List.flatten ((rs.take j).flatMap CR.vals) ++ List.flatten r.vals := by rw [htk]; simp
          obtain ⟨rA, rn, rc, rv⟩ := r
          have HST : Hid (sumN (rs.take (j + 1)) = sumN (rs.take j) + rn ∧ sumN (rs.take (j + 1)) ≤ sumN rs) := Lib.hid ⟨hst, hsl⟩
          have HF := Lib.hid hflat
          have HR := Lib.hid hro
          clear hr hst hsl htk hro hflat
          cases rA with
          | none =>
            have hrn : rn = 0 := HR.out.2.2.2.2 rfl
            subst hrn
            have hrv : rv = [] := List.eq_nil_of_length_eq_zero HR.out.1
            obtain ⟨S, hS⟩ : ∃ S, sumN (rs.take j) = S := ⟨_, rfl⟩
            rw [hS] at HS HST
            rw [hS]
            obtain ⟨A', c', hq, hcap, -⟩ := HS.out.1.shape
            cases hq
            have HCAP := Lib.hid hcap
            have HFE : Hid (List.flatten ((rs.take (j + 1)).flatMap CR.vals) = List.flatten ((rs.take j).flatMap CR.vals)) := Lib.hid (by
              have := HF.out
              rw [hrv] at this
              simpa using this)
            clear hS hcap
            go_wp2_with (at_builtin; go_must (refine wpList_append_0 rfl (.tmp 31) (.tmp 32) _ rfl 24 i0 Tryz.underlying22 hi0 A6 S c6 rc HCAP.out rfl rfl ?_))
            go_roundg (gk - 1)
            case measure => have := HJ.out; omega
            case rel => exact ⟨j + 1, A6, c6, by have := HJ.out; omega, by rw [HST.out.1, Nat.add_zero], by simp, Lib.hid ⟨by rw [HST.out.1, HFE.out, Nat.add_zero]; exact HS.out.1, HS.out.2⟩⟩
          | some ad =>
            have hnews : ∀ q u, (List.flatten rv)[q]? = some u → wr.cell? (ad.add q) = some u := fun q u hq => by
              obtain ⟨i1, q1, v, rfl, hv, hq1⟩ := flat_at HR.out.2.1 hq
              obtain ⟨b', off', h2, h3, h4⟩ := HR.out.2.2.1 i1 v hv
              cases h2
              rw [Addr.add_lit, ← Nat.add_assoc]
              exact (HS.out.2.cell (p := ⟨b', _, none⟩) h3).trans (h4 q1 u hq1)
            have HNW := Lib.hid hnews
            have HON : Hid (∀ u ∈ List.flatten rv, u.oneCell' = true) := Lib.hid fun u hu => by
              obtain ⟨v, hv, hu⟩ := List.mem_flatten.1 hu
              exact HR.out.2.2.2.1 v hv u hu
            have HFL : Hid ((List.flatten rv).length = rn * 5) := Lib.hid (CR.flat_len HR.out)
            obtain ⟨S, hS⟩ : ∃ S, sumN (rs.take j) = S := ⟨_, rfl⟩
            rw [hS] at HS HST
            rw [hS]
            have hsb : S + rn ≤ 1000000 := by have := HST.out; have := HSUM.out; omega
            have HO6 := Lib.hid HS.out.1
            have HB6 := Lib.hid HS.out.2
            have hlo : wo.heap.size ≤ wr.heap.size := HS.out.2.size
            clear hnews hS
            go_wp2_with (at_builtin; go_must (refine wpList_append_S _ rfl (.tmp 31) (.tmp 32) _ rfl (wo.heap.size) 24 i0 _ 5 64 Tryz.underlying22 hi0 hz0 hz1 hz2 rfl (.slice A6 S c6) S _ rfl HO6.out ad rn rc (List.flatten rv) rfl HFL.out HNW.out HON.out (by simp only [maxLen]; omega) (by omega) hlo ?_); intro vn w7 hown hgrow hat; obtain ⟨A8, c8, hvn, -, -⟩ := hown.shape; subst hvn; have HOWN := Lib.hid hown; have HGROW := Lib.hid hgrow; clear hown hgrow hat)
            have hb7 : Below wo.heap.size wo w7 := HB6.out.grown HGROW.out hlo (fun k hk => (HO6.out.lt k hk).1)
            go_roundg (gk - 1)
            case measure => have := HJ.out; omega
            case rel => exact ⟨j + 1, A8, c8, by have := HJ.out; omega, by rw [HST.out.1], by simp, Lib.hid ⟨by rw [HST.out.1, HF.out]; exact HOWN.out, hb7⟩⟩
        · have hje : j = i := by omega
          subst hje
          have hall : rs.take j = rs := List.take_of_length_le (by rw [HM.out]; exact Nat.le_refl _)
          rw [hall] at HS
          rw [hall]
          clear hall
          go_wp2_with fail
          go_ret
          exact ⟨A6, c6, rfl, HS.out.1, HS.out.2⟩
end Go.Proofs.YtfkdkbekmimhoaaGreatDoor
/- tree.replace, walked. -/
namespace Go.Proofs.YtfkdkbekmimhoaaGreatDoor
open Go.RowKit

def replM (fr tz : Nat) (l : List Tree) : List Int → Tree → Tree
  | [], t => .node t.kind t.text t.at_ t.end_ (t.kids.take fr ++ (l ++ t.kids.drop tz))
  | i :: p, t => .node t.kind t.text t.at_ t.end_ (match t.kids[i.toNat]? with
    | some u => t.kids.set i.toNat (replM fr tz l p u)
    | none => t.kids)

theorem kids_mk {w : World} {B : Nat} {A : Option Addr} : ∀ {ts : List Tree} {i : Nat}, (∀ j t, ts[j]? = some t → ∃ v, CellsAt w B A (i + j) v ∧ TreeAt w B t v) → KidsAt w B A i ts
  | [], _, _ => trivial
  | t :: ts, i, h => by
    obtain ⟨v, ⟨b, off, h1, h2, h3⟩, h4⟩ := h 0 t rfl
    refine ⟨⟨b, off, v, h1, h2, h3, h4⟩, kids_mk fun j t' ht => ?_⟩
    obtain ⟨v', h5, h6⟩ := h (j + 1) t' (by simpa using ht)
    exact ⟨v', by rw [show i + 1 + j = i + (j + 1) by omega]; exact h5, h6⟩
theorem kids_of_own {w : World} {base n c : Nat} {A : Option Addr} {vals : List (List Value)} {ts : List Tree} (hO : OwnS w base 24 5 (.slice A n c) n (List.flatten vals)) (h5 : ∀ v ∈ vals, v.length = 5) (hn : ts.length = n) (hl : vals.length = ts.length) (ht : ∀ (j : Nat) (t : Tree) (v : List Value), ts[j]? = some t → vals[j]? = some v → TreeAt w w.heap.size t v) : KidsAt w w.heap.size A 0 ts := by
  refine kids_mk fun j t hj => ?_
  have hjl : j < ts.length := (List.getElem?_eq_some_iff.1 hj).1
  obtain ⟨v, hv⟩ : ∃ v, vals[j]? = some v := ⟨_, List.getElem?_eq_getElem (by omega)⟩
  obtain ⟨g, off, cap, hq, -, -, -, hg, hc⟩ := hO.form (by omega)
  cases hq
  refine ⟨v, ⟨g, off, rfl, hg, fun q x hx => ?_⟩, ht j t v hj hv⟩
  rw [Nat.zero_add, Nat.add_assoc]
  exact hc _ _ (flatten_get vals h5 j q v x hv hx)
theorem cells_shift {w : World} {B : Nat} {A : Option Addr} {k j : Nat} {v : List Value} (h : CellsAt w B A (k + j) v) : CellsAt w B (A.map (·.add (k * 5))) j v := by
  obtain ⟨b, off, rfl, h2, h3⟩ := h
  refine ⟨b, off + k * 5, by simp [Addr.add_lit], h2, fun q x hx => ?_⟩
  rw [show off + k * 5 + j * 5 + q = off + (k + j) * 5 + q by rw [Nat.add_mul]; omega]
  exact h3 q x hx
theorem countsM_append : ∀ (a b : List Tree), countsM (a ++ b) = countsM a + countsM b
  | [], b => by simp [countsM]
  | t :: a, b => by
    have := countsM_append a b
    simp only [List.cons_append, countsM]
    omega
theorem countsM_drop : ∀ (ts : List Tree) (i : Nat), countsM (ts.take i) + countsM (ts.drop i) = countsM ts := fun ts i => by
  rw [← countsM_append, List.take_append_drop]

section
variable {P : Program} {Q : Exit → Act → World → Prop} {S : World → Prop} {ex : List Nat} {ops : Array Oper}
theorem wpHS_call {k : Nat} {ss : List Bool} {o : Oper} {rest : List Oper} {a : Act} {w : World} {f : FuncId} {args : Array Value} (hg : o.guard = none)
    (hr : (execOp a.eval o).run P w = .ok (.enter f args) w) (h : Calls P f args w fun e w' => ∃ v, e = .returned v ∧ (ex.contains k = false → S w') ∧ wpHS P ops Q S ex (k + 1) ss rest (a.put o.dst v) w') : wpHS P ops Q S ex k (false :: ss) (o :: rest) a w :=
  wpHS_law hg (by unfold Oper.wp; rw [hr]; exact h.mono (fun e w' ⟨v, he, h1, h2⟩ => by subst he; exact ⟨h1, h2⟩))
end
set_option maxRecDepth 100000 in
theorem sliceN_from (W : World) (A : Option Addr) (len cap k : Nat) (hk : k ≤ len) : (Instr.slice 22 (.slice A len cap) (some (.int .i64 (k : Int))) none none).run Tryz.prog W = .ok (.slice (if cap = k then A else A.map (·.add (k * 5))) (len - k) (cap - k)) W := by
  obtain ⟨i0, hi0, hz0, hz1, hz2⟩ := info_parts node_info
  have := run_slice_from (P := Tryz.prog) (w := W) 22 24 i0 Tryz.underlying22 hi0 A len cap k hk
  rw [hz1] at this
  exact this
set_option maxRecDepth 100000 in
theorem sliceN_to (W : World) (A : Option Addr) (len cap k : Nat) (hk : k ≤ cap) : (Instr.slice 22 (.slice A len cap) none (some (.int .i64 (k : Int))) none).run Tryz.prog W = .ok (.slice A k cap) W := by
  obtain ⟨i0, hi0, hz0, hz1, hz2⟩ := info_parts node_info
  have h1 : (Instr.slice 22 (.slice A len cap) none (some (.int .i64 (k : Int))) none).run Tryz.prog W = .ok (.slice (if cap = 0 then A else A.map (·.add 0)) k cap) W := by
    simp [Instr.slice, run_underlying Tryz.underlying22, Instr.sliceBounds, Instr.sliceBound, asIntOf, sizeOf, typeInfo, hi0]
    exact fun h => absurd h (by omega)
  rw [h1]
  congr 2
  split
  · rfl
  · cases A <;> rfl

/-- Cells of trees. -/
def ValsT (w : World) (B : Nat) (ts : List Tree) (vals : List (List Value)) : Prop := vals.length = ts.length ∧ ∀ (j : Nat) (t : Tree) (v : List Value), ts[j]? = some t → vals[j]? = some v → TreeAt w B t v
theorem ValsT.take {w : World} {B : Nat} {ts : List Tree} {vals : List (List Value)} (h : ValsT w B ts vals) (i : Nat) : ValsT w B (ts.take i) (vals.take i) := by
  refine ⟨by simp [h.1], fun j t v h1 h2 => ?_⟩
  rw [List.getElem?_take] at h1 h2
  split at h1
  · rename_i hj
    rw [if_pos hj] at h2
    exact h.2 j t v h1 h2
  · cases h1
theorem ValsT.drop {w : World} {B : Nat} {ts : List Tree} {vals : List (List Value)} (h : ValsT w B ts vals) (i : Nat) : ValsT w B (ts.drop i) (vals.drop i) := by
  refine ⟨by simp [h.1], fun j t v h1 h2 => ?_⟩
  rw [List.getElem?_drop] at h1 h2
  exact h.2 _ t v h1 h2
theorem ValsT.append {w : World} {B : Nat} {ts us : List Tree} {vals ws : List (List Value)} (h : ValsT w B ts vals) (h2 : ValsT w B us ws) : ValsT w B (ts ++ us) (vals ++ ws) := by
  refine ⟨by simp [h.1, h2.1], fun j t v q1 q2 => ?_⟩
  by_cases hj : j < ts.length
  · rw [List.getElem?_append_left hj] at q1
    rw [List.getElem?_append_left (by rw [h.1]; exact hj)] at q2
    exact h.2 j t v q1 q2
  · rw [List.getElem?_append_right (by omega)] at q1
    rw [List.getElem?_append_right (by rw [h.1]; omega), h.1] at q2
    exact h2.2 _ t v q1 q2
theorem ValsT.up {w w' : World} {B B' C : Nat} {ts : List Tree} {vals : List (List Value)} (h : ValsT w B ts vals) (hb : Below C w w') (hB : B ≤ C) (hB2 : B ≤ B') : ValsT w' B' ts vals := ⟨h.1, fun j t v h1 h2 => TreeAt.mono hB2 _ _ (TreeAt.below hb hB _ _ (h.2 j t v h1 h2))⟩
theorem ValsT.one {w : World} {B : Nat} {ts : List Tree} {vals : List (List Value)} (h : ValsT w B ts vals) : ∀ v ∈ vals, ∀ u ∈ v, u.oneCell' = true := fun v hv u hu => by
  obtain ⟨j, hj⟩ := List.mem_iff_getElem?.1 hv
  obtain ⟨t, ht⟩ : ∃ t, ts[j]? = some t := ⟨_, List.getElem?_eq_getElem (by rw [← h.1]; exact (List.getElem?_eq_some_iff.1 hj).1)⟩
  obtain ⟨A', c', h6, -⟩ := (h.2 j t v ht hj).five
  rw [h6] at hu
  simp at hu
  rcases hu with rfl | rfl | rfl | rfl | rfl <;> rfl
theorem CellsAt.up {w w' : World} {B B' C : Nat} {A : Option Addr} {i : Nat} {v : List Value} (h : CellsAt w B A i v) (hb : Below C w w') (hB : B ≤ C) (hB2 : B ≤ B') : CellsAt w' B' A i v := by
  obtain ⟨b, off, h1, h2, h3⟩ := h
  exact ⟨b, off, h1, Nat.lt_of_lt_of_le h2 hB2, fun j x hx => (hb.cell (p := ⟨b, _, none⟩) (Nat.lt_of_lt_of_le h2 hB)).trans (h3 j x hx)⟩
theorem kids_none {w : World} {B : Nat} {A : Option Addr} {ts : List Tree} (h : KidsAt w B A 0 ts) (hA : A = none) : ts = [] := by
  cases ts with
  | nil => rfl
  | cons t ts =>
    obtain ⟨⟨b, off, _, h1, -⟩, -⟩ := h
    rw [hA] at h1
    cases h1

theorem flat_set5 {vals : List (List Value)} {j : Nat} {v : List Value} (a0 a1 a2 a3 a4 : Value) (h5 : ∀ v ∈ vals, v.length = 5) (hv : vals[j]? = some v) :
    List.flatten (vals.set j [a0, a1, a2, a3, a4]) = (((((List.flatten vals).set (j * 5 + 0) a0).set (j * 5 + 1) a1).set (j * 5 + 2) a2).set (j * 5 + 3) a3).set (j * 5 + 4) a4 := by
  have hjl : j < vals.length := (List.getElem?_eq_some_iff.1 hv).1
  have hlen := h5 v (List.mem_of_getElem? hv)
  have hset : ∀ x : List Value, x.length = 5 → ∀ y ∈ vals.set j x, y.length = 5 := fun x hx y hy => by
    rcases List.mem_or_eq_of_mem_set hy with h | h
    · exact h5 y h
    · rw [h]; exact hx
  have hget : ∀ x : List Value, (vals.set j x)[j]? = some x := fun x => by rw [List.getElem?_set_self hjl]
  have e0 := flat_set (u := a0) (q := 0) h5 hv (by omega)
  have e1 := flat_set (u := a1) (q := 1) (hset (v.set 0 a0) (by simp [hlen])) (hget _) (by omega)
  have e2 := flat_set (u := a2) (q := 2) (hset ((v.set 0 a0).set 1 a1) (by simp [hlen])) (hget _) (by omega)
  have e3 := flat_set (u := a3) (q := 3) (hset (((v.set 0 a0).set 1 a1).set 2 a2) (by simp [hlen])) (hget _) (by omega)
  have e4 := flat_set (u := a4) (q := 4) (hset ((((v.set 0 a0).set 1 a1).set 2 a2).set 3 a3) (by simp [hlen])) (hget _) (by omega)
  rw [List.set_set] at e1 e2 e3 e4
  rw [← e0, ← e1, ← e2, ← e3, ← e4]
  match v, hlen with
  | [_, _, _, _, _], _ => rfl

theorem KidsOwn.set5 {w : World} {lo g off n c : Nat} {ts : List Tree} (h : KidsOwn w lo (.slice (some ⟨g, off, none⟩) n c) n ts) {j : Nat} (hj : j < n) {u : Tree} {a0 a1 a2 a3 a4 : Value}
    (hT : TreeOwn w (fun q => lo ≤ q ∧ q ≠ g) u [a0, a1, a2, a3, a4]) :
    ∃ W, ((((w.setCell ⟨g, off + j * 5, none⟩ a0).setCell ⟨g, off + j * 5 + 1, none⟩ a1).setCell ⟨g, off + j * 5 + 2, none⟩ a2).setCell ⟨g, off + j * 5 + 3, none⟩ a3).setCell ⟨g, off + j * 5 + 4, none⟩ a4 = W ∧
      KidsOwn W lo (.slice (some ⟨g, off, none⟩) n c) n (ts.set j u) ∧ (∀ q, q ≠ g → W.heap[q]? = w.heap[q]?) ∧ ∀ B w0, Below B w0 w → B ≤ g → Below B w0 W := by
  obtain ⟨vals, hO, hTs, hn⟩ := h
  have hl := TreesOwn.lens hTs
  have h5 := TreesOwn.lens5 hTs
  obtain ⟨v, hv⟩ : ∃ v, vals[j]? = some v := ⟨_, List.getElem?_eq_getElem (by omega)⟩
  have hfar : ∀ q, q ≠ g → (((((w.setCell ⟨g, off + j * 5, none⟩ a0).setCell ⟨g, off + j * 5 + 1, none⟩ a1).setCell ⟨g, off + j * 5 + 2, none⟩ a2).setCell ⟨g, off + j * 5 + 3, none⟩ a3).setCell ⟨g, off + j * 5 + 4, none⟩ a4).heap[q]? = w.heap[q]? := fun q hq => by
    rw [Below.heap_setCell _ ⟨g, off + j * 5 + 4, none⟩ _ q hq, Below.heap_setCell _ ⟨g, off + j * 5 + 3, none⟩ _ q hq, Below.heap_setCell _ ⟨g, off + j * 5 + 2, none⟩ _ q hq, Below.heap_setCell _ ⟨g, off + j * 5 + 1, none⟩ _ q hq, Below.heap_setCell _ ⟨g, off + j * 5, none⟩ _ q hq]
  refine ⟨_, rfl, ?_, hfar, fun B w0 hb hB => ((((hb.setCell hB _).setCell hB _).setCell hB _).setCell hB _).setCell hB _⟩
  have hO5 := ((((hO.set (j * 5 + 0) (by omega) a0).set (j * 5 + 1) (by omega) a1).set (j * 5 + 2) (by omega) a2).set (j * 5 + 3) (by omega) a3).set (j * 5 + 4) (by omega) a4
  rw [← flat_set5 a0 a1 a2 a3 a4 h5 hv] at hO5
  simp only [Nat.add_zero, ← Nat.add_assoc] at hO5
  have hkeep : KeepsN (fun q => lo ≤ q ∧ q ≠ g) w (((((w.setCell ⟨g, off + j * 5, none⟩ a0).setCell ⟨g, off + j * 5 + 1, none⟩ a1).setCell ⟨g, off + j * 5 + 2, none⟩ a2).setCell ⟨g, off + j * 5 + 3, none⟩ a3).setCell ⟨g, off + j * 5 + 4, none⟩ a4) := fun q cs hq _ => hfar q hq.2
  refine ⟨vals.set j [a0, a1, a2, a3, a4], hO5, ?_, by rw [List.length_set]; exact hn⟩
  have hown : (Value.slice (some (⟨g, off, none⟩ : Addr)) n c).ownBlock = some g := rfl
  have hTs2 : TreesOwn w (fun q => lo ≤ q ∧ q ≠ g) ts vals := TreesOwn.weak (fun q _ hq => ⟨hq.1, fun e => hq.2 (by rw [hown, e])⟩) _ _ hTs
  have hset : ∀ (ts : List Tree) (vals : List (List Value)) (j : Nat), TreesOwn w (fun q => lo ≤ q ∧ q ≠ g) ts vals → TreesOwn w (fun q => lo ≤ q ∧ q ≠ g) (ts.set j u) (vals.set j [a0, a1, a2, a3, a4]) := by
    intro ts
    induction ts with
    | nil => intro vals j h; have h : vals = [] := h; subst h; exact rfl
    | cons t ts ih =>
      intro vals j h
      obtain ⟨v, vs, rfl, h1, h2⟩ := h
      cases j with
      | zero => exact ⟨_, _, rfl, hT, h2⟩
      | succ j => exact ⟨_, _, rfl, h1, ih vs j h2⟩
  refine TreesOwn.weak (fun q _ hq => ⟨hq.1, fun e => hq.2 (by rw [hown] at e; exact Option.some.inj e)⟩) _ _ (TreesOwn.keeps hkeep _ _ (hset ts vals j hTs2))

theorem int_info1 : (Tryz.prog.info? 3).map (fun i => (i.zero, i.size, i.bytes)) = some (some (.int .i64 0), 1, 8) := by kernel_rfl
set_option maxRecDepth 100000 in
theorem sliceI_from (W : World) (A : Option Addr) (len cap k : Nat) (hk : k ≤ len) : (Instr.slice 28 (.slice A len cap) (some (.int .i64 (k : Int))) none none).run Tryz.prog W = .ok (.slice (if cap = k then A else A.map (·.add (k * 1))) (len - k) (cap - k)) W := by
  obtain ⟨i0, hi0, hz0, hz1, hz2⟩ := info_parts int_info1
  have := run_slice_from (P := Tryz.prog) (w := W) 28 3 i0 Tryz.underlying28 hi0 A len cap k hk
  rw [hz1] at this
  exact this
theorem kids_at_own {w : World} {lo n c : Nat} {A : Option Addr} {ts : List Tree} (h : KidsOwn w lo (.slice A n c) n ts) : KidsAt w w.heap.size A 0 ts := by
  obtain ⟨vals, hO, hTs, hn⟩ := h
  refine TreesOwn.at_ ts vals A 0 hTs fun j v hv => ?_
  have hl := TreesOwn.lens hTs
  have hj := (List.getElem?_eq_some_iff.1 hv).1
  obtain ⟨g, off, cap, hq, -, -, -, hg, hc⟩ := hO.form (by omega)
  cases hq
  refine ⟨g, off, rfl, hg, fun q x hx => ?_⟩
  rw [Nat.zero_add, Nat.add_assoc]
  exact hc _ _ (flatten_get vals (TreesOwn.lens5 hTs) j q v x hv hx)
theorem own_frozen {w : World} {lo n c g off : Nat} {ts : List Tree} (h : KidsOwn w lo (.slice (some ⟨g, off, none⟩) n c) n ts) (q : Nat) : w.frozen? ⟨g, q, none⟩ = false := by
  obtain ⟨vals, hO, -, -⟩ := h
  rcases hO.2 with ⟨h0, -⟩ | ⟨g', off', cap', cur, hv', -, hg', -⟩
  · cases h0
  · cases hv'
    exact Blk.frozen (cs := cur) hg' _

def Rpl (t : Tree) (p : List Int) (fr tz : Nat) (l : List Tree) : Prop := ∃ y, getM t p = some y ∧ fr ≤ tz ∧ tz ≤ y.kids.length ∧ countM t + countsM l ≤ 1000000

set_option maxHeartbeats 8000000 in
set_option maxRecDepth 100000 in
theorem replace_any (fr tz : Nat) (l : List Tree) (An : Option Addr) (cn : Nat) : ∀ (p : List Int) (t : Tree) (A : Option Addr) (c : Nat) (Ap : Option Addr) (np cp : Nat) (w : World), Rpl t p fr tz l → KidsAt w w.heap.size A 0 t.kids → t.kids.length ≤ c → IntsAt w w.heap.size Ap p → p.length = np → np ≤ cp → KidsAt w w.heap.size An 0 l → np ≤ 1000000 →
    Calls Tryz.prog 62 #[nodeV t A c, .slice Ap np cp, .int .i64 (fr : Int), .int .i64 (tz : Int), .slice An l.length cn] w (OwnRes w (replM fr tz l p t)) := by
  intro p
  induction p with
  | nil =>
    intro t A c Ap np cp w hR hk hcap hp hnp hcp hkl hnb
    simp only [List.length_nil] at hnp
    subst hnp
    obtain ⟨y, hy, hft, hty, hcnt⟩ := hR
    simp only [getM, Option.some.injEq] at hy
    subst hy
    obtain ⟨k, x, a, z, kids⟩ := t
    have hk : KidsAt w w.heap.size A 0 kids := hk
    have hcap : kids.length ≤ c := hcap
    have hty : tz ≤ kids.length := hty
    have hcnt : 1 + countsM kids + countsM l ≤ 1000000 := hcnt
    have hcl := counts_len kids
    have hcll := counts_len l
    obtain ⟨n, hn⟩ : ∃ n, kids.length = n := ⟨_, rfl⟩
    obtain ⟨ln, hln⟩ : ∃ n, l.length = n := ⟨_, rfl⟩
    have hv : nodeV (.node k x a z kids) A c = .agg #[.int .i64 k, .string x, .int .i64 a, .int .i64 z, .slice A n c] := by rw [← hn]; rfl
    have hrm : replM fr tz l [] (.node k x a z kids) = .node k x a z (kids.take fr ++ (l ++ kids.drop tz)) := rfl
    rw [hv, hln, hrm]
    obtain ⟨vk, hvk1, hvk2, hvk3, hvk4⟩ := hk.vals
    obtain ⟨vl, hvl1, hvl2, hvl3, hvl4⟩ := hkl.vals
    rw [hn] at hcap hty hcl hvk1
    rw [hln] at hvl1 hcll
    obtain ⟨W1, hW1⟩ : ∃ W1, w.alloc (.cells #[.int .i64 k, .string x, .int .i64 a, .int .i64 z, .slice A n c] 24) = W1 := ⟨_, rfl⟩
    have hR1 : Blk W1 w.heap.size 24 #[.int .i64 k, .string x, .int .i64 a, .int .i64 z, .slice A n c] := by rw [← hW1]; exact Blk.new w _ _
    have hs1 : W1.heap.size = w.heap.size + 1 := by rw [← hW1]; simp
    have hb1 : Below w.heap.size w W1 := by rw [← hW1]; exact below_alloc _ _
    obtain ⟨W2, hW2⟩ : ∃ W2, W1.alloc (.cells #[.int .i64 0, .string ⟨#[]⟩, .int .i64 0, .int .i64 0, .slice none 0 0] 24) = W2 := ⟨_, rfl⟩
    have hR2 : Blk W2 W1.heap.size 24 #[.int .i64 0, .string ⟨#[]⟩, .int .i64 0, .int .i64 0, .slice none 0 0] := by rw [← hW2]; exact Blk.new W1 _ _
    have hs2 : W2.heap.size = w.heap.size + 2 := by rw [← hW2]; simp [hs1]
    have hb2 : Below w.heap.size w W2 := by rw [← hW2]; exact hb1.alloc (by omega) _
    have hR12 : Blk W2 w.heap.size 24 #[.int .i64 k, .string x, .int .i64 a, .int .i64 z, .slice A n c] := by rw [← hW2]; exact hR1.alloc _
    obtain ⟨g1, hg1⟩ : ∃ g1, W1.heap.size = g1 := ⟨_, rfl⟩
    rw [hg1] at hR2 hs1
    obtain ⟨A3, hA3⟩ : ∃ A3, (if c = tz then A else A.map (·.add (tz * 5))) = A3 := ⟨_, rfl⟩
    -- the rows that are joined
    obtain ⟨W3, hW3⟩ : ∃ W3, W2.drew.alloc (.cells #[.slice A fr c, .slice An ln cn, .slice A3 (n - tz) (c - tz)] 22) = W3 := ⟨_, rfl⟩
    have hb3 : Below w.heap.size w W3 := by rw [← hW3]; exact hb2.drew.alloc (by simp; omega) _
    have hs3 : W3.heap.size = w.heap.size + 3 := by rw [← hW3]; simp [hs2]
    have hR3 : Blk W3 (w.heap.size + 2) 22 #[.slice A fr c, .slice An ln cn, .slice A3 (n - tz) (c - tz)] := by
      have := Blk.new W2.drew 22 #[.slice A fr c, .slice An ln cn, .slice A3 (n - tz) (c - tz)]
      rw [hW3] at this
      have e : W2.drew.heap.size = w.heap.size + 2 := hs2
      rw [e] at this
      exact this
    have hvtk : ValsT w w.heap.size kids vk := ⟨by rw [hvk1, hn], hvk4⟩
    have hvtl : ValsT w w.heap.size l vl := ⟨by rw [hvl1, hln], hvl4⟩
    have hAn : A = none → n = 0 := fun h => by rw [← hn, kids_none hk h]; rfl
    have hAl : An = none → ln = 0 := fun h => by rw [← hln, kids_none hkl h]; rfl
    have hcat := Concat_any (w.heap.size + 2) 0 3 3 [⟨A, fr, c, vk.take fr⟩, ⟨An, ln, cn, vl⟩, ⟨A3, n - tz, c - tz, vk.drop tz⟩] W3 rfl (by omega) (fun j r hj => by
      match j, hj with
      | 0, hj => simp at hj; subst hj; exact hR3.cell 0
      | 1, hj => simp at hj; subst hj; exact hR3.cell 1
      | 2, hj => simp at hj; subst hj; exact hR3.cell 2
      | j + 3, hj => simp at hj) (fun r hr => by
      simp only [List.mem_cons, List.not_mem_nil, or_false] at hr
      rcases hr with rfl | rfl | rfl
      · refine ⟨by simp; omega, fun v hv => hvk2 v (List.mem_of_mem_take hv), fun j v hj => ?_, fun v hv => hvtk.one v (List.mem_of_mem_take hv), fun h => by have := hAn h; show fr = 0; omega⟩
        have hj : (vk.take fr)[j]? = some v := hj
        rw [List.getElem?_take] at hj
        split at hj
        · have := hvk3 j v hj
          rw [Nat.zero_add] at this
          exact this.up hb3 (Nat.le_refl _) hb3.size
        · cases hj
      · refine ⟨hvl1, hvl2, fun j v hj => ?_, hvtl.one, hAl⟩
        have := hvl3 j v hj
        rw [Nat.zero_add] at this
        exact this.up hb3 (Nat.le_refl _) hb3.size
      · refine ⟨by simp [hvk1], fun v hv => hvk2 v (List.mem_of_mem_drop hv), fun j v hj => ?_, fun v hv => hvtk.one v (List.mem_of_mem_drop hv), fun h => ?_⟩
        · have hj : (vk.drop tz)[j]? = some v := hj
          rw [List.getElem?_drop] at hj
          have h1 := hvk3 (tz + j) v hj
          rw [Nat.zero_add] at h1
          have hlt : tz + j < n := by rw [← hvk1]; exact (List.getElem?_eq_some_iff.1 hj).1
          have hne : ¬ c = tz := by omega
          show CellsAt W3 W3.heap.size A3 j v
          rw [← hA3, if_neg hne]
          exact (cells_shift h1).up hb3 (Nat.le_refl _) hb3.size
        · have h : A3 = none := h
          rw [← hA3] at h
          show n - tz = 0
          split at h
          · have := hAn h; omega
          · have := hAn (by simpa using h); omega) (by simp only [sumN]; omega) (by omega)
    have hvals : ValsT w w.heap.size (kids.take fr ++ (l ++ kids.drop tz)) (List.flatMap CR.vals [⟨A, fr, c, vk.take fr⟩, ⟨An, ln, cn, vl⟩, ⟨A3, n - tz, c - tz, vk.drop tz⟩]) := by
      have := (hvtk.take fr).append (hvtl.append (hvtk.drop tz))
      simpa using this
    obtain ⟨TS, hTS⟩ : ∃ TS, kids.take fr ++ (l ++ kids.drop tz) = TS := ⟨_, rfl⟩
    obtain ⟨VS, hVS⟩ : ∃ VS, List.flatMap CR.vals [⟨A, fr, c, vk.take fr⟩, ⟨An, ln, cn, vl⟩, ⟨A3, n - tz, c - tz, vk.drop tz⟩] = VS := ⟨_, rfl⟩
    have hN : sumN [⟨A, fr, c, vk.take fr⟩, ⟨An, ln, cn, vl⟩, ⟨A3, n - tz, c - tz, vk.drop tz⟩] = TS.length := by
      rw [← hTS]
      simp only [sumN, List.length_append, List.length_take, List.length_drop, hn, hln]
      omega
    have hV5 : ∀ v ∈ VS, v.length = 5 := fun v hv => by
      rw [← hVS] at hv
      simp only [List.flatMap_cons, List.flatMap_nil, List.append_nil, List.mem_append] at hv
      rcases hv with hv | hv | hv
      · exact hvk2 v (List.mem_of_mem_take hv)
      · exact hvl2 v hv
      · exact hvk2 v (List.mem_of_mem_drop hv)
    have hTC : countsM TS ≤ 1000000 := by
      rw [← hTS, countsM_append, countsM_append]
      have h1 := countsM_le kids fr
      have h2 := countsM_drop kids tz
      have h3 := countsM_drop kids fr
      have h4 : countsM (kids.take fr) ≤ countsM (kids.take tz) := by
        have := countsM_le (kids.take tz) fr
        rw [List.take_take, Nat.min_eq_left hft] at this
        exact this
      omega
    rw [hTS] at hvals ⊢
    rw [hVS] at hcat hvals
    rw [hN] at hcat
    have HCAT := Lib.hid hcat
    have HVALS := Lib.hid hvals
    have HV5 := Lib.hid hV5
    have HTC := Lib.hid hTC
    have HR2 := Lib.hid hR2
    have HR1 := Lib.hid hR12
    have HB3 := Lib.hid hb3
    have HB23 : Hid (Below (w.heap.size + 2) W2 W3) := Lib.hid (by rw [← hW3]; exact (Below.refl _ W2).drew.alloc (by simp; omega) _)
    have HS3 : Hid (W3.heap.size = w.heap.size + 3 ∧ g1 = w.heap.size + 1 ∧ W2.heap.size = w.heap.size + 2) := Lib.hid ⟨hs3, hs1, hs2⟩
    have HA3 := Lib.hid hA3
    have hzc : tz ≤ n := hty
    have hfc : fr ≤ c := by omega
    have HSF := Lib.hid (fun W => sliceN_from W A n c tz hzc)
    have HSL := Lib.hid (fun W => sliceN_to W A n c fr hfc)
    obtain ⟨⟨t0, t1, t2, t3, t4⟩, -⟩ := hR12.five
    clear hk hkl hcap hcl hcll hcnt hvk1 hvk2 hvk3 hvk4 hvl1 hvl2 hvl3 hvl4 hR1 hs1 hb1 hR2 hs2 hb2 hR12 hb3 hs3 hR3 hvtk hvtl hAn hAl hcat hvals hTS hVS hN hV5 hTC hv hrm
    go_enter Tryz.func62, Tryz.ntmps62
    go_wp2_with (first | rw [hW1] | rw [hW2] | rw [hg1])
    have hS0 : W2.drew.cell? ⟨w.heap.size, 4, none⟩ = some (.slice A n c) := HR1.out.drew.cell 4
    refine wp_region_HS (fun W => W.cell? ⟨w.heap.size, 4, none⟩ = some (.slice A n c)) [13] [true, true, true, true, true, true, true, true, true, false, false, false, true, false] (by kernel_rfl) (by kernel_rfl) rfl (by kernel_rfl) ?_
    refine wpHS_soft rfl hS0 (by intro w' hSw; go_simp; rfl) ?_
    simp only [Act.put, List.setIfInBounds_toArray, List.set_cons_zero, List.set_cons_succ]
    refine wpHS_soft rfl hS0 (by intro w' hSw; go_simp; rfl) ?_
    simp only [Act.put, List.setIfInBounds_toArray, List.set_cons_zero, List.set_cons_succ]
    refine wpHS_soft rfl hS0 (by intro w' hSw; go_simp; rfl) ?_
    simp only [Act.put, List.setIfInBounds_toArray, List.set_cons_zero, List.set_cons_succ]
    refine wpHS_soft (v := .slice A fr c) rfl hS0 (by intro w' hSw; go_simp; first | (rw [HSL.out]; rfl) | skip) ?_
    simp only [Act.put, List.setIfInBounds_toArray, List.set_cons_zero, List.set_cons_succ]
    refine wpHS_soft rfl hS0 (by intro w' hSw; go_simp; rfl) ?_
    simp only [Act.put, List.setIfInBounds_toArray, List.set_cons_zero, List.set_cons_succ]
    refine wpHS_soft rfl hS0 (by intro w' hSw; go_simp; rfl) ?_
    simp only [Act.put, List.setIfInBounds_toArray, List.set_cons_zero, List.set_cons_succ]
    refine wpHS_soft rfl hS0 (by intro w' hSw; go_simp; rfl) ?_
    simp only [Act.put, List.setIfInBounds_toArray, List.set_cons_zero, List.set_cons_succ]
    refine wpHS_soft rfl hS0 (by intro w' hSw; go_simp; rfl) ?_
    simp only [Act.put, List.setIfInBounds_toArray, List.set_cons_zero, List.set_cons_succ]
    refine wpHS_soft (v := .slice A3 (n - tz) (c - tz)) rfl hS0 (by intro w' hSw; go_simp; first | (rw [HSF.out, HA3.out]; rfl) | skip) ?_
    simp only [Act.put, List.setIfInBounds_toArray, List.set_cons_zero, List.set_cons_succ]
    have hS3 : W3.cell? ⟨w.heap.size, 4, none⟩ = some (.slice A n c) := (HR1.out.below HB23.out (by omega)).cell 4
    refine wpHS_run (v := .slice (some ⟨w.heap.size + 2, 0, none⟩) 3 3) (w' := W3) rfl (by go_simp; exact HS3.out.2.2) (fun _ => hS3) ?_
    simp only [Act.put, List.setIfInBounds_toArray, List.set_cons_zero, List.set_cons_succ]
    refine wpHS_call rfl (by go_simp) (HCAT.out.mono ?_)
    rintro e w4 ⟨A4, c4, rfl, hO4, hb4⟩
    have hS4 : w4.cell? ⟨w.heap.size, 4, none⟩ = some (.slice A n c) := (hb4.cell (p := ⟨w.heap.size, _, none⟩) (by have := HS3.out; show w.heap.size < W3.heap.size; omega)).trans hS3
    refine ⟨_, rfl, fun _ => hS4, ?_⟩
    simp only [Act.put, List.setIfInBounds_toArray, List.set_cons_zero, List.set_cons_succ]
    have hcop := copiedK_any 1000000 TS A4 c4 w4 HTC.out (Nat.le_refl _) (kids_of_own hO4 HV5.out rfl HVALS.out.1 (fun j t v h1 h2 => (HVALS.out.up (HB3.out.trans (hb4.mono HB3.out.size)) (Nat.le_refl _) (HB3.out.trans (hb4.mono HB3.out.size)).size).2 j t v h1 h2))
    have hb24 : Below (w.heap.size + 2) W2 w4 := HB23.out.trans (hb4.mono (by have := HS3.out; omega))
    refine wpHS_call rfl (by go_simp) (hcop.mono ?_)
    rintro e w5 ⟨A5, c5, rfl, hK5, hb5⟩
    have hb25 : Below (w.heap.size + 2) W2 w5 := hb24.trans (hb5.mono (by have := hb24.size; have := HS3.out; omega))
    have hR5 := HR1.out.below hb25 (by omega)
    have hZ5 := HR2.out.below hb25 (by have := HS3.out; omega)
    have hS5 : w5.cell? ⟨w.heap.size, 4, none⟩ = some (.slice A n c) := hR5.cell 4
    refine ⟨_, rfl, fun _ => hS5, ?_⟩
    simp only [Act.put, List.setIfInBounds_toArray, List.set_cons_zero, List.set_cons_succ]
    refine wpHS_soft rfl hS5 (by intro w' hSw; go_simp; rfl) ?_
    simp only [Act.put, List.setIfInBounds_toArray, List.set_cons_zero, List.set_cons_succ]
    have hf5 : w5.frozen? ⟨w.heap.size, 4, none⟩ = false := hR5.frozen 4
    obtain ⟨W6, hW6⟩ : ∃ W6, w5.setCell ⟨w.heap.size, 4, none⟩ (.slice A5 TS.length c5) = W6 := ⟨_, rfl⟩
    refine wpHS_skip (w' := W6) rfl (by go_simp) (fun h => by simp at h) ?_
    simp only [Act.put]
    refine wpHS_nil ?_
    have hR6 : Blk W6 w.heap.size 24 #[.int .i64 k, .string x, .int .i64 a, .int .i64 z, .slice A5 TS.length c5] := by
      rw [← hW6]
      have := hR5.set_ 4 (.slice A5 TS.length c5)
      simpa using this
    have hs3 := HS3.out
    have hZ6 : Blk W6 g1 24 #[.int .i64 0, .string ⟨#[]⟩, .int .i64 0, .int .i64 0, .slice none 0 0] := by
      rw [← hW6]
      exact hZ5.far (by show g1 ≠ w.heap.size; omega) _
    have hb6 : Below w.heap.size w W6 := by
      rw [← hW6]
      exact ((HB3.out.trans (hb4.mono HB3.out.size)).trans (hb5.mono (HB3.out.trans (hb4.mono HB3.out.size)).size)).setCell (Nat.le_refl _) _
    have hz45 := hb4.size
    have hK6 : KidsOwn W6 (w.heap.size + 2) (.slice A5 TS.length c5) TS.length TS := by
      rw [← hW6]
      obtain ⟨vals, q1, q2, q3⟩ := hK5
      have hK5' : KidsOwn w5 (w.heap.size + 2) (.slice A5 TS.length c5) TS.length TS := ⟨vals, q1.mono (by omega), TreesOwn.weak (fun g _ hg => ⟨by omega, hg.2⟩) _ _ q2, q3⟩
      exact hK5'.keeps (keeps_set (by omega) _ _ _)
    have hT6 : TreeOwn W6 (fun q => g1 + 1 ≤ q) (.node k x a z TS) (cellsV (.node k x a z TS) A5 c5) := TreeOwn.weak (fun q _ hq => by omega) _ _ (hK6.node k x a z)
    obtain ⟨W10, hW10, hR10, -, hF⟩ := own_stored (w := w) (n := TS.length) (k := k) (x := x) (a := a) (z := z) hT6 hb6 (by omega) hZ6 rfl rfl rfl rfl rfl
    have HR10 := Lib.hid hR10
    have HF := Lib.hid hF
    obtain ⟨⟨r0, r1, r2, r3, r4⟩, -⟩ := hR6.five
    obtain ⟨⟨y0, y1, y2, y3, y4⟩, v0, v1, v2, v3, v4⟩ := hZ6.five
    clear hR10 hF hT6 hK6 hb6 hZ6 hR6 hs3 hz45 hf5 hR5 hZ5 hS5 hK5 hb5 hb25 hb24 hcop hS4 hO4 hb4 hS3 hS0 hW6
    go_wp2_with (rw [hW10])
    obtain ⟨⟨x0, x1, x2, x3, x4⟩, -⟩ := HR10.out.five
    clear r0 r1 r2 r3 r4 y0 y1 y2 y3 y4 v0 v1 v2 v3 v4 hW10
    apply bodyPost_ret (v := .agg #[.int .i64 k, .string x, .int .i64 a, .int .i64 z, .slice A5 TS.length c5])
    · simp [results, Tryz.results62, go_sem, x0, x1, x2, x3, x4]
    · rfl
    exact HF.out
  | cons i p ih =>
    intro t A c Ap np cp w hR hk hcap hp hnp hcp hkl hnb
    obtain ⟨y, hy, hft, hty, hcnt⟩ := hR
    rw [getM] at hy
    have hi0 : ¬ i < 0 := fun h => by rw [if_pos h] at hy; cases hy
    rw [if_neg hi0] at hy
    obtain ⟨j, rfl⟩ : ∃ j : Nat, i = (j : Int) := ⟨i.toNat, by omega⟩
    obtain ⟨k, x, a, z, kids⟩ := t
    rw [Int.toNat_natCast] at hy
    obtain ⟨u, hu, hy⟩ : ∃ u, kids[j]? = some u ∧ getM u p = some y := by
      cases hu : kids[j]? with
      | none =>
        have hu2 : (Tree.node k x a z kids).kids[j]? = none := hu
        rw [hu2] at hy
        cases hy
      | some u =>
        have hu2 : (Tree.node k x a z kids).kids[j]? = some u := hu
        rw [hu2] at hy
        exact ⟨u, rfl, hy⟩
    have hk : KidsAt w w.heap.size A 0 kids := hk
    have hcap : kids.length ≤ c := hcap
    have hcnt : 1 + countsM kids + countsM l ≤ 1000000 := hcnt
    have hcl := counts_len kids
    have hcu := countsM_mem hu
    have hjn : j < kids.length := (List.getElem?_eq_some_iff.1 hu).1
    obtain ⟨n, hn⟩ : ∃ n, kids.length = n := ⟨_, rfl⟩
    obtain ⟨ln, hln⟩ : ∃ n, l.length = n := ⟨_, rfl⟩
    have hv : nodeV (.node k x a z kids) A c = .agg #[.int .i64 k, .string x, .int .i64 a, .int .i64 z, .slice A n c] := by rw [← hn]; rfl
    have hrm : replM fr tz l ((j : Int) :: p) (.node k x a z kids) = .node k x a z (kids.set j (replM fr tz l p u)) := by
      rw [replM]
      have hu2 : (Tree.node k x a z kids).kids[(j : Int).toNat]? = some u := by rw [Int.toNat_natCast]; exact hu
      rw [hu2, Int.toNat_natCast]
      rfl
    rw [hv, hrm]
    rw [List.length_cons] at hnp
    obtain ⟨bp, op, hAp, hbp, hcp0⟩ := hp 0 (j : Int) rfl
    subst hAp
    rw [hn] at hcap hcl hjn
    obtain ⟨W1, hW1⟩ : ∃ W1, w.alloc (.cells #[.int .i64 k, .string x, .int .i64 a, .int .i64 z, .slice A n c] 24) = W1 := ⟨_, rfl⟩
    have hR1 : Blk W1 w.heap.size 24 #[.int .i64 k, .string x, .int .i64 a, .int .i64 z, .slice A n c] := by rw [← hW1]; exact Blk.new w _ _
    have hs1 : W1.heap.size = w.heap.size + 1 := by rw [← hW1]; simp
    have hb1 : Below w.heap.size w W1 := by rw [← hW1]; exact below_alloc _ _
    obtain ⟨W2, hW2⟩ : ∃ W2, W1.alloc (.cells #[.int .i64 0, .string ⟨#[]⟩, .int .i64 0, .int .i64 0, .slice none 0 0] 24) = W2 := ⟨_, rfl⟩
    have hR2 : Blk W2 W1.heap.size 24 #[.int .i64 0, .string ⟨#[]⟩, .int .i64 0, .int .i64 0, .slice none 0 0] := by rw [← hW2]; exact Blk.new W1 _ _
    have hs2 : W2.heap.size = w.heap.size + 2 := by rw [← hW2]; simp [hs1]
    have hb2 : Below w.heap.size w W2 := by rw [← hW2]; exact hb1.alloc (by omega) _
    have hR12 : Blk W2 w.heap.size 24 #[.int .i64 k, .string x, .int .i64 a, .int .i64 z, .slice A n c] := by rw [← hW2]; exact hR1.alloc _
    obtain ⟨g1, hg1⟩ : ∃ g1, W1.heap.size = g1 := ⟨_, rfl⟩
    rw [hg1] at hR2 hs1
    have hcop := copiedK_any 1000000 kids A c W2 (by omega) (Nat.le_refl _) (KidsAt.mono hb2.size _ _ _ (KidsAt.below hb2 (Nat.le_refl _) _ _ _ hk))
    unfold RowRes at hcop
    rw [hn] at hcop
    have hne : ((np : Int) == 0) = false := by simp; omega
    have hnz : ¬ (np : Int) = 0 := by omega
    have HCOP := Lib.hid hcop
    have HR2 := Lib.hid hR2
    have HR1 := Lib.hid hR12
    have HB2 := Lib.hid hb2
    have HS : Hid (g1 = w.heap.size + 1 ∧ W2.heap.size = w.heap.size + 2) := Lib.hid ⟨hs1, hs2⟩
    have HK := Lib.hid hkl
    have HP := Lib.hid hp
    have HCP0 := Lib.hid hcp0
    have HU := Lib.hid (And.intro hu hy)
    have HN := Lib.hid (And.intro hn (And.intro hln hnp))
    have HCNT : Hid (countM u + countsM l ≤ 1000000) := Lib.hid (by omega)
    have HT := Lib.hid (And.intro hft hty)
    have HIH := Lib.hid ih
    obtain ⟨⟨t0, t1, t2, t3, t4⟩, f0, f1, f2, f3, f4⟩ := hR12.five
    clear hk hkl hcap hcl hcnt hR1 hs1 hb1 hR2 hs2 hb2 hR12 hv hrm hcop hi0 hp hcp0 hu hy hn hnp hft hty ih hcu
    rw [hln]
    go_enter Tryz.func62, Tryz.ntmps62
    go_wp2_with (first | rw [hW1] | rw [hW2] | rw [hg1])
    refine HCOP.out.mono ?_
    rintro e w3 ⟨A3, c3, rfl, hK3, hb3⟩
    have hR3 := HR1.out.below hb3 (by have := HS.out; omega)
    have hZ3 := HR2.out.below hb3 (by have := HS.out; omega)
    obtain ⟨W4, hW4⟩ : ∃ W4, w3.setCell ⟨w.heap.size, 4, none⟩ (.slice A3 n c3) = W4 := ⟨_, rfl⟩
    have hR4 : Blk W4 w.heap.size 24 #[.int .i64 k, .string x, .int .i64 a, .int .i64 z, .slice A3 n c3] := by
      rw [← hW4]
      have := hR3.set_ 4 (.slice A3 n c3)
      simpa using this
    have hZ4 : Blk W4 g1 24 #[.int .i64 0, .string ⟨#[]⟩, .int .i64 0, .int .i64 0, .slice none 0 0] := by
      rw [← hW4]
      exact hZ3.far (by have := HS.out; show g1 ≠ w.heap.size; omega) _
    have hK4 : KidsOwn W4 (w.heap.size + 2) (.slice A3 n c3) n kids := by
      rw [← hW4]
      rw [HS.out.2] at hK3
      exact hK3.keeps (keeps_set (by omega) _ _ _)
    have hb4 : Below w.heap.size w W4 := by rw [← hW4]; exact (HB2.out.trans (hb3.mono HB2.out.size)).setCell (Nat.le_refl _) _
    have hsz4 : w.heap.size + 2 ≤ W4.heap.size := by
      rw [← hW4]
      have := hb3.size
      have := HS.out
      simp
      omega
    obtain ⟨y0, y1, y2, y3, y4⟩ := hR3.five.1
    obtain ⟨z0, z1, z2, z3, z4⟩ := hR3.five.2
    have H4 := Lib.hid (And.intro hR4 (And.intro hZ4 (And.intro hK4 (And.intro hb4 hsz4))))
    clear hR3 hZ3 hR4 hZ4 hK4 hb4 hsz4 hK3 hb3
    go_wp2_with (rw [hW4])
    obtain ⟨hR4, hZ4, hK4, hb4, hsz4⟩ := H4.out
    obtain ⟨kv, ⟨b, off, hA3, hbl, hcs⟩, hTu⟩ := (kids_at_own hK4).get j u HU.out.1
    subst hA3
    have hcapu := hTu
    obtain ⟨Ak, ck, hkv, hKu⟩ := hTu.five
    subst hkv
    have hcapu := hcapu.cap
    rw [Nat.zero_add] at hcs
    have hlow : w.heap.size + 2 ≤ b := by
      obtain ⟨vals, hO, -, -⟩ := hK4
      exact (hO.lt b rfl).1
    obtain ⟨Aq, hAq⟩ : ∃ Aq, (if cp = 1 then (some ⟨bp, op, none⟩ : Option Addr) else (some (⟨bp, op, none⟩ : Addr)).map (·.add (1 * 1))) = Aq := ⟨_, rfl⟩
    have hIq : IntsAt w w.heap.size Aq p := fun q v hq => by
      obtain ⟨b', off', h1, h2, h3⟩ := HP.out (q + 1) v (by simpa using hq)
      cases h1
      have hql := (List.getElem?_eq_some_iff.1 hq).1
      have hcp1 : ¬ cp = 1 := by have := HN.out.2.2; omega
      refine ⟨bp, op + 1, by rw [← hAq, if_neg hcp1]; simp [Addr.add_lit], h2, ?_⟩
      rw [show op + 1 + q = op + (q + 1) by omega]
      exact h3
    have hih := HIH.out u Ak ck Aq (np - 1) (cp - 1) W4.drew ⟨y, HU.out.2, HT.out.1, HT.out.2, HCNT.out⟩ (KidsAt.below ((Below.refl W4.heap.size W4).drew) (Nat.le_refl _) _ _ _ hKu) hcapu ((hIq.below hb4.drew (Nat.le_refl _)).mono hb4.size) (by have := HN.out.2.2; omega) (by omega) (KidsAt.mono hb4.size _ _ _ (KidsAt.below hb4.drew (Nat.le_refl _) _ _ _ HK.out)) (by omega)
    rw [HN.out.2.1] at hih
    obtain ⟨u', hu'⟩ : ∃ u', replM fr tz l p u = u' := ⟨_, rfl⟩
    rw [hu'] at hih ⊢
    obtain ⟨nu, hnu⟩ : ∃ q, u.kids.length = q := ⟨_, rfl⟩
    obtain ⟨ku, hku⟩ : ∃ q, u.kind = q := ⟨_, rfl⟩
    obtain ⟨xu, hxu⟩ : ∃ q, u.text = q := ⟨_, rfl⟩
    obtain ⟨au, hau⟩ : ∃ q, u.at_ = q := ⟨_, rfl⟩
    obtain ⟨zu, hzu⟩ : ∃ q, u.end_ = q := ⟨_, rfl⟩
    have hnvu : nodeV u Ak ck = .agg #[.int .i64 ku, .string xu, .int .i64 au, .int .i64 zu, .slice Ak nu ck] := by unfold nodeV; rw [hku, hxu, hau, hzu, hnu]
    rw [hnvu] at hih
    have HI := Lib.hid hih
    have hfs : 1 ≤ np := by have := HN.out.2.2; omega
    have HSQ := Lib.hid (fun W => sliceI_from W (some ⟨bp, op, none⟩) np cp 1 hfs)
    have hS0 : W4.drew.cell? ⟨w.heap.size, 4, none⟩ = some (.slice (some ⟨b, off, none⟩) n c3) ∧ W4.drew.cell? ⟨bp, op, none⟩ = some (.int .i64 (j : Int)) ∧ W4.drew.cell? ⟨b, off + j * 5, none⟩ = some (.int .i64 ku) ∧ W4.drew.cell? ⟨b, off + j * 5 + 1, none⟩ = some (.string xu) ∧ W4.drew.cell? ⟨b, off + j * 5 + 2, none⟩ = some (.int .i64 au) ∧ W4.drew.cell? ⟨b, off + j * 5 + 3, none⟩ = some (.int .i64 zu) ∧ W4.drew.cell? ⟨b, off + j * 5 + 4, none⟩ = some (.slice Ak nu ck) :=
      ⟨hR4.drew.cell 4, (hb4.drew.cell (p := ⟨bp, _, none⟩) hbp).trans (by simpa using HCP0.out), by rw [← hku]; simpa using hcs 0 _ rfl, by rw [← hxu]; exact hcs 1 _ rfl, by rw [← hau]; exact hcs 2 _ rfl, by rw [← hzu]; exact hcs 3 _ rfl, by rw [← hnu]; exact hcs 4 _ rfl⟩
    have HJ : Hid ((j : Int) < (n : Int) ∧ b < W4.heap.size ∧ bp < W4.heap.size ∧ w.heap.size + 2 ≤ b) := Lib.hid ⟨by omega, hbl, by omega, hlow⟩
    have hj1 : (j : Int) < (n : Int) := HJ.out.1
    have hj0 : ¬ (j : Int) < 0 := by omega
    have hnp0 : (0 : Int) < (np : Int) := by omega
    have hnpN : 0 < np := hfs
    have hnp1 : ¬ (np : Int) < 1 := by omega
    have hnp2 : (1 : Int) ≤ (np : Int) := by omega
    have HAQ := Lib.hid hAq
    clear hcs hTu hcapu hKu hIq hih hAq hnu hku hxu hau hzu hnvu hlow
    refine wp_region_HS (fun W => W.cell? ⟨w.heap.size, 4, none⟩ = some (.slice (some ⟨b, off, none⟩) n c3) ∧ W.cell? ⟨bp, op, none⟩ = some (.int .i64 (j : Int)) ∧ W.cell? ⟨b, off + j * 5, none⟩ = some (.int .i64 ku) ∧ W.cell? ⟨b, off + j * 5 + 1, none⟩ = some (.string xu) ∧ W.cell? ⟨b, off + j * 5 + 2, none⟩ = some (.int .i64 au) ∧ W.cell? ⟨b, off + j * 5 + 3, none⟩ = some (.int .i64 zu) ∧ W.cell? ⟨b, off + j * 5 + 4, none⟩ = some (.slice Ak nu ck)) [19] [true, true, true, true, true, true, true, true, true, true, true, true, true, true, true, true, true, false, true, false] (by kernel_rfl) (by kernel_rfl) rfl (by kernel_rfl) ?_
    refine wpHS_soft rfl hS0 (by intro w' hSw; obtain ⟨s0, s1, s2, s3, s4, s5, s6⟩ := hSw; go_simp; rfl) ?_
    simp only [Act.put, List.setIfInBounds_toArray, List.set_cons_zero, List.set_cons_succ]
    refine wpHS_soft rfl hS0 (by intro w' hSw; obtain ⟨s0, s1, s2, s3, s4, s5, s6⟩ := hSw; go_simp; rfl) ?_
    simp only [Act.put, List.setIfInBounds_toArray, List.set_cons_zero, List.set_cons_succ]
    refine wpHS_soft rfl hS0 (by intro w' hSw; obtain ⟨s0, s1, s2, s3, s4, s5, s6⟩ := hSw; go_simp; rfl) ?_
    simp only [Act.put, List.setIfInBounds_toArray, List.set_cons_zero, List.set_cons_succ]
    refine wpHS_soft rfl hS0 (by intro w' hSw; obtain ⟨s0, s1, s2, s3, s4, s5, s6⟩ := hSw; go_simp; rfl) ?_
    simp only [Act.put, List.setIfInBounds_toArray, List.set_cons_zero, List.set_cons_succ]
    refine wpHS_soft rfl hS0 (by intro w' hSw; obtain ⟨s0, s1, s2, s3, s4, s5, s6⟩ := hSw; go_simp; rfl) ?_
    simp only [Act.put, List.setIfInBounds_toArray, List.set_cons_zero, List.set_cons_succ]
    refine wpHS_soft rfl hS0 (by intro w' hSw; obtain ⟨s0, s1, s2, s3, s4, s5, s6⟩ := hSw; go_simp; rfl) ?_
    simp only [Act.put, List.setIfInBounds_toArray, List.set_cons_zero, List.set_cons_succ]
    refine wpHS_soft rfl hS0 (by intro w' hSw; obtain ⟨s0, s1, s2, s3, s4, s5, s6⟩ := hSw; go_simp; rfl) ?_
    simp only [Act.put, List.setIfInBounds_toArray, List.set_cons_zero, List.set_cons_succ]
    refine wpHS_soft rfl hS0 (by intro w' hSw; obtain ⟨s0, s1, s2, s3, s4, s5, s6⟩ := hSw; go_simp; rfl) ?_
    simp only [Act.put, List.setIfInBounds_toArray, List.set_cons_zero, List.set_cons_succ]
    refine wpHS_soft rfl hS0 (by intro w' hSw; obtain ⟨s0, s1, s2, s3, s4, s5, s6⟩ := hSw; go_simp; rfl) ?_
    simp only [Act.put, List.setIfInBounds_toArray, List.set_cons_zero, List.set_cons_succ]
    refine wpHS_soft rfl hS0 (by intro w' hSw; obtain ⟨s0, s1, s2, s3, s4, s5, s6⟩ := hSw; go_simp; rfl) ?_
    simp only [Act.put, List.setIfInBounds_toArray, List.set_cons_zero, List.set_cons_succ]
    refine wpHS_soft rfl hS0 (by intro w' hSw; obtain ⟨s0, s1, s2, s3, s4, s5, s6⟩ := hSw; go_simp; rfl) ?_
    simp only [Act.put, List.setIfInBounds_toArray, List.set_cons_zero, List.set_cons_succ]
    refine wpHS_soft rfl hS0 (by intro w' hSw; obtain ⟨s0, s1, s2, s3, s4, s5, s6⟩ := hSw; go_simp; rfl) ?_
    simp only [Act.put, List.setIfInBounds_toArray, List.set_cons_zero, List.set_cons_succ]
    refine wpHS_soft rfl hS0 (by intro w' hSw; obtain ⟨s0, s1, s2, s3, s4, s5, s6⟩ := hSw; go_simp; rfl) ?_
    simp only [Act.put, List.setIfInBounds_toArray, List.set_cons_zero, List.set_cons_succ]
    refine wpHS_soft (v := .slice Aq (np - 1) (cp - 1)) rfl hS0 (by intro w' hSw; go_simp; first | (rw [HSQ.out, HAQ.out]; rfl) | (rw [← HAQ.out]; rfl) | (rw [← HAQ.out]; simp [Addr.add_lit])) ?_
    simp only [Act.put, List.setIfInBounds_toArray, List.set_cons_zero, List.set_cons_succ]
    refine wpHS_soft rfl hS0 (by intro w' hSw; obtain ⟨s0, s1, s2, s3, s4, s5, s6⟩ := hSw; go_simp; rfl) ?_
    simp only [Act.put, List.setIfInBounds_toArray, List.set_cons_zero, List.set_cons_succ]
    refine wpHS_soft rfl hS0 (by intro w' hSw; obtain ⟨s0, s1, s2, s3, s4, s5, s6⟩ := hSw; go_simp; rfl) ?_
    simp only [Act.put, List.setIfInBounds_toArray, List.set_cons_zero, List.set_cons_succ]
    refine wpHS_soft rfl hS0 (by intro w' hSw; obtain ⟨s0, s1, s2, s3, s4, s5, s6⟩ := hSw; go_simp; rfl) ?_
    simp only [Act.put, List.setIfInBounds_toArray, List.set_cons_zero, List.set_cons_succ]
    refine wpHS_call rfl (by go_simp) (HI.out.mono ?_)
    rintro e w5 ⟨A5, c5, rfl, hT5, hb5⟩
    have e4 : W4.drew.heap.size = W4.heap.size := rfl
    rw [e4] at hT5 hb5
    have hS5 : w5.cell? ⟨w.heap.size, 4, none⟩ = some (.slice (some ⟨b, off, none⟩) n c3) ∧ w5.cell? ⟨bp, op, none⟩ = some (.int .i64 (j : Int)) ∧ w5.cell? ⟨b, off + j * 5, none⟩ = some (.int .i64 ku) ∧ w5.cell? ⟨b, off + j * 5 + 1, none⟩ = some (.string xu) ∧ w5.cell? ⟨b, off + j * 5 + 2, none⟩ = some (.int .i64 au) ∧ w5.cell? ⟨b, off + j * 5 + 3, none⟩ = some (.int .i64 zu) ∧ w5.cell? ⟨b, off + j * 5 + 4, none⟩ = some (.slice Ak nu ck) := by
      obtain ⟨s0, s1, s2, s3, s4, s5, s6⟩ := hS0
      obtain ⟨-, q1, q2, -⟩ := HJ.out
      exact ⟨(hb5.cell (p := ⟨w.heap.size, _, none⟩) (by show w.heap.size < W4.heap.size; omega)).trans s0, (hb5.cell (p := ⟨bp, _, none⟩) q2).trans s1, (hb5.cell (p := ⟨b, _, none⟩) q1).trans s2, (hb5.cell (p := ⟨b, _, none⟩) q1).trans s3, (hb5.cell (p := ⟨b, _, none⟩) q1).trans s4, (hb5.cell (p := ⟨b, _, none⟩) q1).trans s5, (hb5.cell (p := ⟨b, _, none⟩) q1).trans s6⟩
    refine ⟨_, rfl, fun _ => hS5, ?_⟩
    simp only [Act.put, List.setIfInBounds_toArray, List.set_cons_zero, List.set_cons_succ]
    refine wpHS_soft rfl hS5 (by intro w' hSw; obtain ⟨s0, s1, s2, s3, s4, s5, s6⟩ := hSw; go_simp; rfl) ?_
    simp only [Act.put, List.setIfInBounds_toArray, List.set_cons_zero, List.set_cons_succ]
    have hK5 : KidsOwn w5 (w.heap.size + 2) (.slice (some ⟨b, off, none⟩) n c3) n kids := hK4.keeps (KeepsN.of_below (((Below.refl W4.heap.size W4).drew).trans hb5))
    have hf := own_frozen hK5
    have v0 := hf (off + j * 5)
    have v1 := hf (off + j * 5 + 1)
    have v2 := hf (off + j * 5 + 2)
    have v3 := hf (off + j * 5 + 3)
    have v4 := hf (off + j * 5 + 4)
    obtain ⟨nt, hnt⟩ : ∃ q, u'.kids.length = q := ⟨_, rfl⟩
    obtain ⟨kt, hkt⟩ : ∃ q, u'.kind = q := ⟨_, rfl⟩
    obtain ⟨xt, hxt⟩ : ∃ q, u'.text = q := ⟨_, rfl⟩
    obtain ⟨at_, hat⟩ : ∃ q, u'.at_ = q := ⟨_, rfl⟩
    obtain ⟨zt, hzt⟩ : ∃ q, u'.end_ = q := ⟨_, rfl⟩
    have hnvt : nodeV u' A5 c5 = .agg #[.int .i64 kt, .string xt, .int .i64 at_, .int .i64 zt, .slice A5 nt c5] := by unfold nodeV; rw [hkt, hxt, hat, hzt, hnt]
    have hcv : cellsV u' A5 c5 = [.int .i64 kt, .string xt, .int .i64 at_, .int .i64 zt, .slice A5 nt c5] := by unfold cellsV; rw [hkt, hxt, hat, hzt, hnt]
    rw [hnvt]
    rw [hcv] at hT5
    obtain ⟨-, hbl, hbp4, hlow⟩ := HJ.out
    obtain ⟨W8, hW8, hK8, hfar8, hbel8⟩ := hK5.set5 (j := j) hjn (TreeOwn.weak (fun q _ hq => ⟨by omega, by omega⟩) _ _ hT5)
    have hb5' : Below W4.heap.size W4 w5 := ((Below.refl W4.heap.size W4).drew).trans hb5
    have hR5 := hR4.below hb5' (by omega)
    have hZ5 := hZ4.below hb5' (by have := HS.out; omega)
    have hR8 : Blk W8 w.heap.size 24 #[.int .i64 k, .string x, .int .i64 a, .int .i64 z, .slice (some ⟨b, off, none⟩) n c3] := hR5.keep (hfar8 _ (by omega))
    have hZ8 : Blk W8 g1 24 #[.int .i64 0, .string ⟨#[]⟩, .int .i64 0, .int .i64 0, .slice none 0 0] := hZ5.keep (hfar8 _ (by have := HS.out; omega))
    have hb8 : Below w.heap.size w W8 := hbel8 _ _ (hb4.trans (hb5'.mono hb4.size)) (by omega)
    obtain ⟨z0, z1, z2, z3, z4, z5, z6⟩ := hS5
    refine wpHS_skip (w' := W8) rfl (by go_simp) (fun h => by simp at h) ?_
    simp only [Act.put]
    refine wpHS_nil ?_
    obtain ⟨KS, hKS⟩ : ∃ KS, kids.set j u' = KS := ⟨_, rfl⟩
    rw [hKS] at hK8 ⊢
    have hn8 : KS.length = n := by rw [← hKS, List.length_set]; exact HN.out.1
    have hT6 : TreeOwn W8 (fun q => g1 + 1 ≤ q) (.node k x a z KS) (cellsV (.node k x a z KS) (some ⟨b, off, none⟩) c3) := by
      have := TreeOwn.weak (Q := fun q => g1 + 1 ≤ q) (fun q _ hq => by have := HS.out; omega) _ _ (hK8.node k x a z)
      unfold cellsV
      rw [show (Tree.node k x a z KS).kids.length = n from hn8]
      exact this
    obtain ⟨W10, hW10, hR10, -, hF⟩ := own_stored (w := w) (n := n) (k := k) (x := x) (a := a) (z := z) hT6 hb8 (by have := HS.out; omega) hZ8 rfl rfl rfl rfl hn8
    have HR10 := Lib.hid hR10
    have HF := Lib.hid hF
    obtain ⟨⟨r0, r1, r2, r3, r4⟩, -⟩ := hR8.five
    obtain ⟨⟨y0, y1, y2, y3, y4⟩, q0, q1, q2, q3, q4⟩ := hZ8.five
    clear hR10 hF hT6 hn8 hb8 hZ8 hR8 hZ5 hR5 hb5' hbel8 hfar8 hK8 hW8 hcv hnvt hf hK5 hT5 hb5 hR4 hZ4 hK4 hb4 v0 v1 v2 v3 v4 z0 z1 z2 z3 z4 z5 z6
    go_wp2_with (rw [hW10])
    obtain ⟨⟨x0, x1, x2, x3, x4⟩, -⟩ := HR10.out.five
    clear r0 r1 r2 r3 r4 y0 y1 y2 y3 y4 q0 q1 q2 q3 q4 hW10
    apply bodyPost_ret (v := .agg #[.int .i64 k, .string x, .int .i64 a, .int .i64 z, .slice (some ⟨b, off, none⟩) n c3])
    · simp [results, Tryz.results62, go_sem, x0, x1, x2, x3, x4]
    · rfl
    rw [← hKS]
    have h := HF.out
    rw [← hKS] at h
    exact h
end Go.Proofs.YtfkdkbekmimhoaaGreatDoor
/- The reference's trees, walked: Count. -/
namespace Go.Proofs.YtfkdkbekmimhoaaGreatDoor
open Go.RowKit

set_option maxHeartbeats 1000000 in
set_option maxRecDepth 100000 in
theorem count3_any : ∀ (m : Nat) (t : Tree) (A : Option Addr) (c : Nat) (w : World), countM t ≤ m → m ≤ 1000000000000 → KidsAt w w.heap.size A 0 t.kids →
    Calls Tryz.prog 115 #[nodeV t A c] w fun e w' => e = .returned (.int .i64 (countM t : Int)) ∧ Below w.heap.size w w' := by
  intro m
  induction m with
  | zero =>
    intro t A c w h
    have := countM_pos t
    omega
  | succ m ih =>
    intro t A c w hm hbig hk
    have hce := countM_eq t
    obtain ⟨kids, hkids⟩ : ∃ x, t.kids = x := ⟨_, rfl⟩
    obtain ⟨n, hn⟩ : ∃ x, kids.length = x := ⟨_, rfl⟩
    unfold nodeV
    rw [hkids] at hk hce ⊢
    rw [hn]
    obtain ⟨k, hk0⟩ : ∃ x, t.kind = x := ⟨_, rfl⟩
    obtain ⟨x, hx0⟩ : ∃ x, t.text = x := ⟨_, rfl⟩
    obtain ⟨a, ha0⟩ : ∃ x, t.at_ = x := ⟨_, rfl⟩
    obtain ⟨z, hz0⟩ : ∃ x, t.end_ = x := ⟨_, rfl⟩
    rw [hk0, hx0, ha0, hz0]
    have hcl := counts_len kids
    have HK := Lib.hid hk
    have HN := Lib.hid hn
    have HCE := Lib.hid hce
    have HIH := Lib.hid ih
    have HM : Hid (countsM kids ≤ m ∧ m ≤ 1000000000000) := Lib.hid ⟨by omega, by omega⟩
    have hnb : n ≤ 1000000000000 := by omega
    clear hk hce ih hm hbig hk0 hx0 ha0 hz0 hkids hn hcl
    go_enter Tryz.func115, Tryz.ntmps115
    go_wp2_with fail
    generalize hW1 : w.alloc (.cells #[.int .i64 k, .string x, .int .i64 a, .int .i64 z, .slice A n c] 24) = W1
    have hb1 : Below w.heap.size w W1 := by rw [← hW1]; exact below_alloc _ _
    have hR1 : Blk W1 w.heap.size 24 #[.int .i64 k, .string x, .int .i64 a, .int .i64 z, .slice A n c] := by rw [← hW1]; exact Blk.new w _ _
    have HR1 := Lib.hid hR1
    have HB1 := Lib.hid hb1
    have hl1 := hR1.lt
    have HK1 := Lib.hid (KidsAt.below hb1 (Nat.le_refl _) _ _ _ HK.out)
    clear hW1 hb1 hR1
    go_loopg [3, 4] n (fun gk s3 s4 wr => ∃ i : Nat, i + gk = n ∧ s3 = .int .i64 ((1 + countsM (kids.take i) : Nat) : Int) ∧ s4 = .int .i64 (i : Int) ∧ Below W1.heap.size W1 wr)
    case atStart => exact ⟨0, by omega, by simp [countsM], rfl, Below.refl _ _⟩
    case round =>
      obtain ⟨i, hi, rfl, rfl, hB⟩ := hrel
      have hRr := HR1.out.below hB hl1
      have hc4 : wr.cell? ⟨w.heap.size, 4, none⟩ = some (.slice A n c) := hRr.cell 4
      have hlr := hRr.lt
      have HB := Lib.hid hB
      have HI := Lib.hid hi
      have hin : i ≤ n := by omega
      have hcl := countsM_le kids i
      have hcb : countsM (kids.take i) ≤ 1000000000000 := by have := HM.out; omega
      clear hB hRr hi hcl
      by_cases hlt : i < n
      · have hlt' : (i : Int) < (n : Int) := by omega
        obtain ⟨u, hu⟩ : ∃ u, kids[i]? = some u := ⟨_, List.getElem?_eq_getElem (by rw [HN.out]; exact hlt)⟩
        obtain ⟨vals, ⟨b, off, hA, hbl, hcs⟩, hT⟩ := HK1.out.get i u hu
        obtain ⟨A', c', hvals, hK'⟩ := hT.five
        subst hA
        subst hvals
        have hbb : b < wr.heap.size := by omega
        have hbW : b < W1.heap.size := by omega
        have t0 : wr.cell? ⟨b, off + i * 5, none⟩ = some (.int .i64 u.kind) := (HB.out.cell (p := ⟨b, _, none⟩) hbW).trans (by simpa using hcs 0 _ rfl)
        have t1 : wr.cell? ⟨b, off + i * 5 + 1, none⟩ = some (.string u.text) := (HB.out.cell (p := ⟨b, _, none⟩) hbW).trans (by simpa using hcs 1 _ rfl)
        have t2 : wr.cell? ⟨b, off + i * 5 + 2, none⟩ = some (.int .i64 u.at_) := (HB.out.cell (p := ⟨b, _, none⟩) hbW).trans (by simpa using hcs 2 _ rfl)
        have t3 : wr.cell? ⟨b, off + i * 5 + 3, none⟩ = some (.int .i64 u.end_) := (HB.out.cell (p := ⟨b, _, none⟩) hbW).trans (by simpa using hcs 3 _ rfl)
        have t4 : wr.cell? ⟨b, off + i * 5 + 4, none⟩ = some (.slice A' u.kids.length c') := (HB.out.cell (p := ⟨b, _, none⟩) hbW).trans (by simpa using hcs 4 _ rfl)
        have htk := countsM_take kids i u hu
        have hle := countsM_le kids (i + 1)
        have hcall := HIH.out u A' c' wr (by have := HM.out; omega) HM.out.2 (KidsAt.mono (B := w.heap.size) (by omega) _ _ _ (KidsAt.below HB.out (by omega) _ _ _ hK'))
        unfold nodeV at hcall
        have HC := Lib.hid hcall
        have HTK := Lib.hid htk
        have hub : countM u ≤ 1000000000000 := by have := HM.out; omega
        have hwr : IntKind.i64.wrap ((i : Int) + 1) = (i : Int) + 1 := IntWalk.i64_in _ (by omega)
        have hws : IntKind.i64.wrap (((1 + countsM (kids.take i) : Nat) : Int) + (countM u : Int)) = ((1 + countsM (kids.take i) : Nat) : Int) + (countM u : Int) := IntWalk.i64_in _ (by omega)
        obtain ⟨un, hun⟩ : ∃ q, u.kids.length = q := ⟨_, rfl⟩
        rw [hun] at t4 HC
        obtain ⟨cs1, hcs1⟩ : ∃ q, 1 + countsM (kids.take i) = q := ⟨_, rfl⟩
        rw [hcs1] at hws ⊢
        have HCS1 := Lib.hid hcs1
        obtain ⟨cu, hcu⟩ : ∃ q, countM u = q := ⟨_, rfl⟩
        rw [hcu] at hws HC
        have HCU := Lib.hid hcu
        clear hcs hT hK' htk hle hcall hu hun hcs1 hcu hcb hub
        go_wp2_with fail
        refine HC.out.mono ?_
        rintro e w2 ⟨rfl, hb2⟩
        go_wp2_with fail
        go_roundg (gk - 1)
        case measure => have := HI.out; omega
        case rel => exact ⟨i + 1, by have := HI.out; omega, by rw [HTK.out, ← HCS1.out, ← HCU.out]; simp; omega, by simp, HB.out.trans (hb2.mono HB.out.size)⟩
      · have hie : i = n := by omega
        have hres : 1 + countsM (kids.take i) = countM t := by rw [HCE.out, hie, ← HN.out, List.take_length]
        rw [hres]
        clear hres
        go_wp2_with fail
        go_ret
        exact ⟨rfl, HB1.out.trans (HB.out.mono HB1.out.size)⟩

end Go.Proofs.YtfkdkbekmimhoaaGreatDoor
