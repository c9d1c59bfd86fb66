/- A block of ints of the call's own, seen as a list; slices.Clone at ints. -/
import Derived.Test.YtpdimehoepfgaaaMem
import Derived.Lib.SliceRun
import Derived.Deep.DeepMust
namespace Go.Proofs.Ytpdimehoepfgaaa
open Go.RowKit

abbrev iv (z : Int) : Value := .int .i64 z
abbrev ivs (l : List Int) : List Value := l.map (Value.int .i64)

/-- Block g is just the ints l, none frozen. -/
def IntsBlk (w : World) (g : Nat) (l : List Int) : Prop := w.heap[g]? = some (.cells (l.map (Value.int .i64)).toArray 3 (0, 0))

section
variable {w w' : World} {g : Nat} {l : List Int}
theorem IntsBlk.lt (h : IntsBlk w g l) : g < w.heap.size := (Array.getElem?_eq_some_iff.1 h).1
theorem IntsBlk.cell (h : IntsBlk w g l) {i : Nat} (hi : i < l.length) : w.cell? ⟨g, i, none⟩ = some (.int .i64 (l.getD i 0)) := by
  rw [cell_of_row w g i _ _ (0, 0) h]
  simp [List.getElem?_eq_getElem hi]
theorem IntsBlk.frozen (h : IntsBlk w g l) (i : Nat) : w.frozen? ⟨g, i, none⟩ = false := by
  unfold IntsBlk at h
  simp [World.frozen?, h]
theorem IntsBlk.keep (h : IntsBlk w g l) (hk : w'.heap[g]? = w.heap[g]?) : IntsBlk w' g l := hk.trans h
theorem IntsBlk.alloc (h : IntsBlk w g l) (o : Obj) : IntsBlk (w.alloc o) g l := h.keep (Below.heap_alloc w o g h.lt)
theorem IntsBlk.drew (h : IntsBlk w g l) : IntsBlk w.drew g l := h
theorem IntsBlk.drewN (h : IntsBlk w g l) (n : Nat) : IntsBlk (w.drewN n) g l := h
theorem IntsBlk.far (h : IntsBlk w g l) {p : Addr} (hp : g ≠ p.block) (u : Value) : IntsBlk (w.setCell p u) g l := h.keep (Below.heap_setCell w p u g hp)
theorem IntsBlk.below {B : Nat} (h : IntsBlk w g l) (hb : Below B w w') (hg : g < B) : IntsBlk w' g l := h.keep (hb.block g hg)
theorem IntsBlk.grown {row : Option Nat} (h : IntsBlk w g l) (hb : w.grownBy w' row) (hg : some g ≠ row) : IntsBlk w' g l := h.keep (hb.block g h.lt hg)
theorem IntsBlk.set (h : IntsBlk w g l) (i : Nat) (x : Int) : IntsBlk (w.setCell ⟨g, i, none⟩ (.int .i64 x)) g (l.set i x) := by
  unfold IntsBlk at h ⊢
  simp [World.setCell, Array.getElem?_modify, h, List.map_set]
theorem IntsBlk.new (w : World) (l : List Int) : IntsBlk (w.alloc (.cells (l.map (Value.int .i64)).toArray 3)) w.heap.size l := heap_alloc_new w _
end

theorem run_eql_nil (w : World) (b off n c : Nat) : (binOp .eql 33 (.slice (some ⟨b, off, none⟩) n c) (.slice none 0 0)).run Try.prog w = .ok (.bool false) w :=
  Lib.run_eql_slice_nil w 33 3 (some ⟨b, off, none⟩) n c 0 0 Try.underlying33

theorem int_info : (Try.prog.info? 3).map (fun i => (i.zero, i.size, i.bytes)) = some (some (.int .i64 0), 1, 8) := by kernel_rfl

/-- make([]int, n): n zeros. -/
theorem run_make_ints (n : Nat) (hn : n ≤ 1000000) (w : World) :
    (Instr.makeSlice 33 (.int .i64 (n : Int)) (.int .i64 (n : Int))).run Try.prog w = .ok (.slice (some ⟨w.heap.size, 0, none⟩) n n) (w.alloc (.cells ((List.replicate n (0 : Int)).map (Value.int .i64)).toArray 3)) := by
  obtain ⟨i0, hi0, hz0, hz1, hz2⟩ := info_parts int_info
  have h := run_make (P := Try.prog) w 33 3 i0 _ Try.underlying33 hi0 hz0 .i64 .i64 n n (by omega) (by omega) (by rw [hz2]; omega) (by omega)
  rw [h]
  simp only [Int.toNat_natCast, hz1, Nat.mul_one]
  have h2 : madeCells (Value.int .i64 0).cells n = ((List.replicate n (0 : Int)).map (Value.int .i64)).toArray := by
    apply Array.ext'
    show (madeCells #[Value.int .i64 0] n).toList = _
    rw [toList_madeCells_one]
    simp
  rw [h2]

set_option maxHeartbeats 400000 in
theorem Clone_any (A : Option Addr) (n c : Nat) (l : List Int) (w : World) (hl : l.length = n) (hr : RowAt 1 (fun z => [Value.int .i64 z]) w w.heap.size A l) (hn : 0 < n) (hn2 : n ≤ 1000000) :
    Calls Try.prog 38 #[.slice A n c] w fun e w' => ∃ v, e = .returned v ∧ OwnS w' w.heap.size 3 1 v n (ivs l) ∧ Below w.heap.size w w' := by
  obtain ⟨i0, hi0, hz0, hz1, hz2⟩ := info_parts int_info
  obtain ⟨b, off, rfl, hlt, hq⟩ := hr 0 (l[0]'(by omega)) (List.getElem?_eq_getElem (by omega))
  have hcell : ∀ j u, (ivs l)[j]? = some u → w.cell? ⟨b, off + j, none⟩ = some u := by
    intro j u hj
    rw [List.getElem?_map] at hj
    cases hx : l[j]? with
    | none => rw [hx] at hj; cases hj
    | some z =>
      rw [hx] at hj
      obtain ⟨b', off', he, _, hc⟩ := hr j z hx
      cases he
      have := hc 0 u hj
      simpa using this
  have hnil : ∀ w : World, (binOp .eql 33 (.slice (some ⟨b, off, none⟩) n c) (.slice none 0 0)).run Try.prog w = .ok (.bool false) w := fun w => run_eql_nil w _ _ n c
  have hown0 : OwnS (w.alloc (.cells #[] 3)) w.heap.size 3 1 (.slice (some ⟨w.heap.size, 0, none⟩) 0 0) 0 [] :=
    OwnS.block (n := 0) (cur := #[]) (Nat.le_refl _) (heap_alloc_new w _) (by simp [maxLen]) rfl
  have hcell' : ∀ j u, (ivs l)[j]? = some u → (w.alloc (.cells #[] 3)).cell? ((⟨b, off, none⟩ : Addr).add j) = some u := fun j u hj => by
    rw [Addr.add_lit, World.cell?_alloc_lt _ _ _ hlt]
    exact hcell j u hj
  have hlen : (ivs l).length = n * 1 := by simp [hl]
  have hone : ∀ u ∈ ivs l, u.oneCell' = true := by
    intro u hu
    obtain ⟨z, _, rfl⟩ := List.mem_map.1 hu
    rfl
  have HC := Lib.hid hcell'
  have HL := Lib.hid hlen
  have HO := Lib.hid hown0
  have H1 := Lib.hid hone
  clear hcell hcell' hr hlen hown0 hone hq hl
  go_enter Try.func38, Try.ntmps38
  go_wp2_with (at_builtin; refine wpList_append_S _ rfl (.tmp 5) (.tmp 6) _ rfl w.heap.size 3 i0 _ 1 8 Try.underlying33 hi0 hz0 hz1 hz2 rfl (.slice (some ⟨w.heap.size, 0, none⟩) 0 0) 0 [] rfl HO.out ⟨b, off, none⟩ n c (ivs l) rfl HL.out HC.out H1.out (by simp only [maxLen]; omega) (by omega) (by simp) ?_; intro v' w1 hown hgrow hat)
  go_ret
  exact ⟨v', rfl, by simpa using hown, ((Below.refl _ _).alloc (Nat.le_refl _) _).grown hgrow (by simp) (by simp [Value.ownBlock])⟩

end Go.Proofs.Ytpdimehoepfgaaa
