/- The example of the chapter, and awake. -/
import Derived.Test.YtpdimehoepfgaaaEq
import Derived.Test.YtpdimehoepfgaaaSolve2
import Derived.Deep.RegionWith
namespace Go.Proofs.Ytpdimehoepfgaaa
open Go.RowKit

def eB : ByteArray := ⟨#[]⟩
def ex0 : Con := ⟨0, 0, 0, 1, 0, eB, 0, 0⟩
def ex1 : Con := ⟨1, 0, 1, 0, 0, eB, 0, 0⟩
def ex2 : Con := ⟨1, 1, 2, 0, 0, eB, 0, 0⟩
def ex3 : Con := ⟨0, 2, 0, 2, 0, eB, 0, 0⟩
def ex4 : Con := ⟨1, 0, 2, 0, 0, eB, 0, 0⟩
def exCons : List Con := [ex0, ex1, ex2, ex3, ex4]
def exObj : Obj := .cells (exCons.flatMap conCells).toArray 36

theorem example_any (w : World) : Calls Try.prog 26 #[] w fun e w' => e = .returned (.slice (some ⟨w.heap.size, 0, none⟩) 5 5) ∧ w' = w.alloc exObj := by
  go_enter Try.func26, Try.ntmps26
  go_wp2_with fail
  go_ret
  exact ⟨rfl, rfl⟩

theorem marks_ex : marksOfClass (marksUpto exCons exCons.length) (classM (edgesM exCons 3 exCons.length) 3 0) = [0, 3] := by
  unfold marksOfClass
  rw [show ((classM (edgesM exCons 3 exCons.length) 3 0).flatMap (marksUpto exCons exCons.length)).map (fun x : Nat => (x : Int)) = [0, 3] from by kernel_rfl]
  exact List.mergeSort_of_pairwise (by decide)
theorem solve_ex1 : solveUpto exCons 3 1 = ⟨List.replicate 3 zeroTy, [[0, 4, 3]], [true, true, true]⟩ := by
  have h := solveUpto_succ exCons 3 0
  rw [h, solveStep_chain (ch := [0, 4, 3]) (t := ⟨2, 0, eB⟩) (by kernel_rfl) (by rw [marks_ex]; kernel_rfl), show setAll true (solveUpto exCons 3 0).seen (classM (edgesM exCons 3 exCons.length) 3 0) = [true, true, true] from by kernel_rfl]
  rfl
theorem solve_ex : solveUpto exCons 3 3 = ⟨[zeroTy, zeroTy, zeroTy], [[0, 4, 3]], [true, true, true]⟩ := by
  rw [solveUpto_succ, solveUpto_succ, solve_ex1, solveStep_seen (by rfl), solveStep_seen (by rfl)]
  rfl

def exRest : List Con := [ex0, ex1, ex2, ex4]
def intTy : Ty := ⟨1, 0, eB⟩
theorem chains_rest : (solveUpto exRest 3 3).chains = [] := by kernel_rfl
theorem out_rest : (solveUpto exRest 3 3).out = [intTy, intTy, intTy] := by kernel_rfl
theorem all_ex : exCons.all (okCon 3) = true := by kernel_rfl
theorem all_rest : exRest.all (okCon 3) = true := by kernel_rfl

theorem TysBlk.row {w : World} {g : Nat} {l : List Ty} (h : TysBlk w g l) : RowAt 3 tyCells w w.heap.size (some ⟨g, 0, none⟩) l := by
  intro k c hk
  refine ⟨g, 0, rfl, Blk.lt h, fun j v hj => ?_⟩
  obtain ⟨h1, h2, h3⟩ := flat_get l k c hk
  rw [Nat.zero_add, Blk.cell h]
  match j, hj with
  | 0, hj => simp [tyCells] at hj; subst hj; simpa using h1
  | 1, hj => simp [tyCells] at hj; subst hj; simpa using h2
  | 2, hj => simp [tyCells] at hj; subst hj; simpa using h3
  | j + 3, hj => simp [tyCells] at hj

theorem exRow (w : World) : RowAt 8 conCells (w.alloc exObj) (w.alloc exObj).heap.size (some ⟨w.heap.size, 0, none⟩) exCons :=
  (OwnS.block (base := 0) (w := w.alloc exObj) (e := 36) (size := 8) (g := w.heap.size) (cur := (exCons.flatMap conCells).toArray) (n := 5) (Nat.zero_le _) (heap_alloc_new w _) (by simp [maxLen]) (by rfl)).rowAt rfl rfl (by intro c hc; rfl) rfl

def zeroTys : Obj := .cells ((List.replicate 3 zeroTy).flatMap tyCells).toArray 23

theorem con_info : (Try.prog.info? 36).map (fun i => (i.zero, i.size, i.bytes)) = some (some (.agg #[.int .i64 0, .int .i64 0, .int .i64 0, .int .i64 0, .int .i64 0, .string ⟨#[]⟩, .int .i64 0, .int .i64 0]), 8, 72) := by kernel_rfl

set_option maxHeartbeats 1000000 in
theorem awake_any (w : World) : Calls Try.prog 10 #[] w fun e w' => e = .returned (.bool true) ∧ Below w.heap.size w w' := by
  obtain ⟨c0, hc0, hcz, hcs, hcb⟩ := info_parts con_info
  go_enter Try.func10, Try.ntmps10
  go_wp2_with fail
  refine (example_any _).mono ?_
  rintro e w1 ⟨rfl, rfl⟩
  go_wp2_with fail
  refine (solve_any 3 _ 5 5 exCons _ (exRow w) rfl (by omega) (by omega)).mono ?_
  rintro e w1 ⟨hb1, hp⟩
  rw [if_pos all_ex, solve_ex] at hp
  obtain ⟨g1, A1, c1, rfl, hg1, hT1, hC1⟩ := hp
  simp only [List.length_cons, List.length_nil] at hT1 hC1 ⊢
  go_wp2_with fail
  refine wp_region_HS (fun _ => True) [] [false, true, false, true, false, false, false, false] (by kernel_rfl) (by kernel_rfl) rfl (by kernel_rfl) ?_
  refine wpHS_law rfl ?_
  go_simp
  refine (example_any _).mono ?_
  rintro e w2 ⟨rfl, rfl⟩
  refine wpHS_soft rfl trivial (by intro w' _; go_simp; rfl) ?_
  simp only [Act.put, List.setIfInBounds_toArray, List.set_cons_zero, List.set_cons_succ]
  refine wpHS_law rfl ?_
  go_simp
  refine (example_any _).mono ?_
  rintro e w2 ⟨rfl, rfl⟩
  refine wpHS_soft rfl trivial (by intro w' _; go_simp; rfl) ?_
  simp only [Act.put, List.setIfInBounds_toArray, List.set_cons_zero, List.set_cons_succ]
  have hB2 : Blk ((w1.alloc exObj).drew.alloc exObj) w1.heap.size 36 (exCons.flatMap conCells).toArray := (Blk.drew (Blk.new w1 _ _)).alloc _
  have hB3 : Blk ((w1.alloc exObj).drew.alloc exObj) (w1.heap.size + 1) 36 (exCons.flatMap conCells).toArray := by
    have hh : Blk ((w1.alloc exObj).drew.alloc exObj) (w1.alloc exObj).drew.heap.size 36 (exCons.flatMap conCells).toArray := Blk.new _ _ _
    rw [show (w1.alloc exObj).drew.heap.size = w1.heap.size + 1 by simp] at hh
    exact hh
  have hB1 : Below w1.heap.size w1 ((w1.alloc exObj).drew.alloc exObj) := by (repeat (first | exact Below.refl _ _ | assumption | refine Below.trans ?_ (Below.mono (by assumption) (by first | omega | (simp; done) | (simp; omega))) | refine Below.alloc ?_ (by first | omega | (simp; done) | (simp; omega)) _ | refine Below.setCell ?_ (by first | omega | (simp; done) | (simp; omega)) _ | refine Below.drew ?_ | refine below_drewN ?_ _))
  have hW3s : ((w1.alloc exObj).drew.alloc exObj).heap.size = w1.heap.size + 1 + 1 := by simp
  have hds : (w1.alloc exObj).drew.heap.size = w1.heap.size + 1 := by simp
  rw [hds]
  generalize (w1.alloc exObj).drew.alloc exObj = W3 at *
  have h32 : W3.cell? ⟨w1.heap.size + 1, 32, none⟩ = some (.int .i64 1) := hB3.cell 32
  have h33 : W3.cell? ⟨w1.heap.size + 1, 33, none⟩ = some (.int .i64 0) := hB3.cell 33
  have h34 : W3.cell? ⟨w1.heap.size + 1, 34, none⟩ = some (.int .i64 2) := hB3.cell 34
  have h35 : W3.cell? ⟨w1.heap.size + 1, 35, none⟩ = some (.int .i64 0) := hB3.cell 35
  have h36 : W3.cell? ⟨w1.heap.size + 1, 36, none⟩ = some (.int .i64 0) := hB3.cell 36
  have h37 : W3.cell? ⟨w1.heap.size + 1, 37, none⟩ = some (.string ⟨#[]⟩) := hB3.cell 37
  have h38 : W3.cell? ⟨w1.heap.size + 1, 38, none⟩ = some (.int .i64 0) := hB3.cell 38
  have h39 : W3.cell? ⟨w1.heap.size + 1, 39, none⟩ = some (.int .i64 0) := hB3.cell 39
  have HB2 := Lib.hid hB2
  have HW3s := Lib.hid hW3s
  clear hB2 hB3 hW3s hds
  refine wpHS_run (w' := W3) rfl (by go_simp; rfl) (fun _ => trivial) ?_
  simp only [Act.put, List.setIfInBounds_toArray, List.set_cons_zero, List.set_cons_succ]
  refine wpHS_run (w' := W3.alloc (.cells #[.int .i64 1, .int .i64 0, .int .i64 2, .int .i64 0, .int .i64 0, .string ⟨#[]⟩, .int .i64 0, .int .i64 0] 36)) rfl (by go_simp; rfl) (fun _ => trivial) ?_
  simp only [Act.put, List.setIfInBounds_toArray, List.set_cons_zero, List.set_cons_succ]
  have hown0 : OwnS W3 w1.heap.size 36 8 (.slice (some ⟨w1.heap.size, 0, none⟩) 3 3) 3 (([ex0, ex1, ex2] : List Con).flatMap conCells) :=
    ⟨rfl, .inr ⟨w1.heap.size, 0, 3, _, rfl, Nat.le_refl _, HB2.out, Nat.le_refl _, by simp [maxLen], by simp [exCons, conCells], rfl⟩⟩
  have hnews : ∀ j u, (conCells ex4)[j]? = some u → (W3.alloc (.cells #[.int .i64 1, .int .i64 0, .int .i64 2, .int .i64 0, .int .i64 0, .string ⟨#[]⟩, .int .i64 0, .int .i64 0] 36)).cell? ((⟨W3.heap.size, 0, none⟩ : Addr).add j) = some u := fun j u hj => by
    rw [Addr.add_lit, Nat.zero_add, Blk.cell (Blk.new W3 36 _)]
    simpa [conCells, ex4, eB] using hj
  have h1w := hb1.size
  simp at h1w
  refine wpHS_law rfl (wp_append_S _ (.tmp 16) (.tmp 20) _ rfl w1.heap.size 36 c0 _ 8 72 Try.underlying26 hc0 hcz hcs hcb rfl (.slice (some ⟨w1.heap.size, 0, none⟩) 3 3) 3 (([ex0, ex1, ex2] : List Con).flatMap conCells) rfl (hown0.alloc _) ⟨W3.heap.size, 0, none⟩ 1 1 (conCells ex4) rfl rfl hnews (by simp [conCells, Value.oneCell']) (by simp [maxLen]) (by omega) (by have := HW3s.out; simp; omega) ?_)
  intro v4 w4 hown4 hgrow4 hat4
  refine ⟨fun _ => trivial, ?_⟩
  have hB4 : Below w1.heap.size w1 w4 := Below.grown (hB1.alloc (by have := HW3s.out; omega) _) hgrow4 (by have := HW3s.out; simp; omega) (by intro g hg; simp [Value.ownBlock] at hg; omega)
  have hrest : ([ex0, ex1, ex2] : List Con).flatMap conCells ++ conCells ex4 = exRest.flatMap conCells := rfl
  rw [hrest] at hown4
  obtain ⟨A4, c4, hv4, -, -⟩ := hown4.shape
  subst hv4
  have hrow4 := hown4.rowAt (l := exRest) rfl rfl (by intro c hc; rfl) rfl
  have HR4 := Lib.hid hrow4
  have HT1 := Lib.hid (Blk.below hT1 hB4 (Blk.lt hT1))
  have HC1 := Lib.hid (hC1.later hB4)
  clear hnews hgrow4 hown4 hat4 hrest hrow4 hT1 hC1 hown0 h32 h33 h34 h35 h36 h37 h38 h39 HB2 HW3s hB1
  simp only [Act.put, List.setIfInBounds_toArray, List.set_cons_zero, List.set_cons_succ]
  refine wpHS_run (w' := w4) rfl (by go_simp; rfl) (fun _ => trivial) ?_
  refine wpHS_nil ?_
  simp only [Act.put, List.setIfInBounds_toArray, List.set_cons_zero, List.set_cons_succ]
  go_wp2_with fail
  refine (solve_any 3 _ 4 c4 exRest _ HR4.out rfl (by omega) (by omega)).mono ?_
  rintro e w5 ⟨hb5, hp⟩
  rw [if_pos all_rest, chains_rest, out_rest] at hp
  obtain ⟨g5, A5, c5, rfl, hg5, hT5, hC5⟩ := hp
  simp only [List.length_nil]
  have hmk : ∀ w' : World, (Instr.makeSlice 28 (.int .i64 3) (.int .i64 3)).run Try.prog w' = .ok (.slice (some ⟨w'.heap.size, 0, none⟩) 3 3) (w'.alloc zeroTys) := run_make_tys 3 (by omega)
  have hB5 : Below w1.heap.size w1 w5 := hB4.trans (hb5.mono hB4.size)
  have HT1b := Lib.hid (Blk.below HT1.out hb5 (Blk.lt HT1.out))
  have HC1b := Lib.hid (HC1.out.later hb5)
  have HT5 := Lib.hid hT5
  have HC5 := Lib.hid hC5
  clear HT1 HC1 hT5 hC5 HR4
  go_wp2_with fail
  generalize hW6 : ((w5.alloc (.cells #[.int .i64 1, .int .i64 0, .string ⟨#[]⟩] 23)).alloc zeroTys) = W6
  have h6i : Blk W6 w5.heap.size 23 #[.int .i64 1, .int .i64 0, .string ⟨#[]⟩] := by rw [← hW6]; exact (Blk.new _ _ _).alloc _
  have h6z : TysBlk W6 (w5.heap.size + 1) [zeroTy, zeroTy, zeroTy] := by
    have hh : Blk ((w5.alloc (.cells #[.int .i64 1, .int .i64 0, .string ⟨#[]⟩] 23)).alloc zeroTys) (w5.alloc (.cells #[.int .i64 1, .int .i64 0, .string ⟨#[]⟩] 23)).heap.size 23 _ := Blk.new _ _ _
    rw [World.size_alloc, hW6] at hh
    exact hh
  have h6b : Below w5.heap.size w5 W6 := by rw [← hW6]; (repeat (first | exact Below.refl _ _ | assumption | refine Below.trans ?_ (Below.mono (by assumption) (by first | omega | (simp; done) | (simp; omega))) | refine Below.alloc ?_ (by first | omega | (simp; done) | (simp; omega)) _ | refine Below.setCell ?_ (by first | omega | (simp; done) | (simp; omega)) _ | refine Below.drew ?_ | refine below_drewN ?_ _))
  have HT6 := Lib.hid (Blk.below HT1b.out h6b (Blk.lt HT1b.out))
  have HC6 := Lib.hid (HC1b.out.later h6b)
  have HU6 := Lib.hid (Blk.below HT5.out h6b (Blk.lt HT5.out))
  clear hW6 hmk HT1b HC1b HT5 HC5
  refine (Equal_any _ _ 3 3 3 3 [zeroTy, zeroTy, zeroTy] [zeroTy, zeroTy, zeroTy] W6 (TysBlk.row HT6.out) (TysBlk.row h6z) rfl rfl (by omega)).mono ?_
  rintro e w7 ⟨rfl, hb7⟩
  rw [tysEq_refl]
  have h7i : Blk w7 w5.heap.size 23 _ := h6i.below hb7 h6i.lt
  have h7i0 := h7i.cell 0
  have h7i1 := h7i.cell 1
  have h7i2 := h7i.cell 2
  simp only [List.getElem?_toArray, List.getElem?_cons_zero, List.getElem?_cons_succ] at h7i0 h7i1 h7i2
  have h7lt := h7i.lt
  have HC7 := Lib.hid (HC6.out.later hb7)
  have HU7 := Lib.hid (Blk.below HU6.out hb7 (Blk.lt HU6.out))
  have hB7 : Below w1.heap.size w1 w7 := (hB5.trans (h6b.mono hB5.size)).trans (hb7.mono (Nat.le_trans hB5.size h6b.size))
  clear h6i h6z h7i HT6 HC6 HU6 hb7
  go_wp2_with fail
  generalize hW8 : (w7.alloc (.cells #[.int .i64 0, .int .i64 4, .int .i64 3] 3)).alloc (.cells #[.slice (some ⟨w7.heap.size, 0, none⟩) 3 3] 33) = W8
  have h8c : ChainsAt W8 W8.heap.size (some ⟨w7.heap.size + 1, 0, none⟩) [[0, 4, 3]] := by
    have hi : Blk W8 w7.heap.size 3 #[.int .i64 0, .int .i64 4, .int .i64 3] := by rw [← hW8]; exact (Blk.new _ _ _).alloc _
    have hj : Blk W8 (w7.heap.size + 1) 33 #[.slice (some ⟨w7.heap.size, 0, none⟩) 3 3] := by
      have hh := Blk.new (w7.alloc (.cells #[.int .i64 0, .int .i64 4, .int .i64 3] 3)) 33 #[.slice (some ⟨w7.heap.size, 0, none⟩) 3 3]
      rw [World.size_alloc, hW8] at hh
      exact hh
    intro k ch hk
    cases k with
    | zero =>
      simp at hk
      subst hk
      refine ⟨w7.heap.size + 1, 0, some ⟨w7.heap.size, 0, none⟩, 3, rfl, hj.lt, hj.cell 0, Nat.le_refl _, fun q c hq => ⟨w7.heap.size, 0, rfl, hi.lt, fun m v hm => ?_⟩⟩
      cases m with
      | zero =>
        simp at hm
        subst hm
        rw [Nat.zero_add, Nat.mul_one, Nat.add_zero, hi.cell q]
        match q, hq with
        | 0, hq => simp at hq; subst hq; rfl
        | 1, hq => simp at hq; subst hq; rfl
        | 2, hq => simp at hq; subst hq; rfl
        | q + 3, hq => simp at hq
      | succ m => simp at hm
    | succ k => simp at hk
  have h8b : Below w7.heap.size w7 W8 := by rw [← hW8]; (repeat (first | exact Below.refl _ _ | assumption | refine Below.trans ?_ (Below.mono (by assumption) (by first | omega | (simp; done) | (simp; omega))) | refine Below.alloc ?_ (by first | omega | (simp; done) | (simp; omega)) _ | refine Below.setCell ?_ (by first | omega | (simp; done) | (simp; omega)) _ | refine Below.drew ?_ | refine below_drewN ?_ _))
  have HC8 := Lib.hid (HC7.out.later h8b)
  have HU8 := Lib.hid (Blk.below HU7.out h8b (Blk.lt HU7.out))
  clear hW8 HC7 HU7
  refine (Lists_any A1 _ 1 1 c1 1 [[0, 4, 3]] [[0, 4, 3]] W8 HC8.out h8c rfl rfl (by omega) (by simp)).mono ?_
  rintro e w9 ⟨rfl, hb9⟩
  rw [show decide ([[0, 4, 3]] = ([[0, 4, 3]] : List (List Int))) = true from rfl]
  have hB9 : Below w7.heap.size w7 w9 := h8b.trans (hb9.mono h8b.size)
  obtain ⟨hc9, hf9⟩ := bcell hB9
  have hz9 := hB9.size
  have h9i0 : w9.cell? ⟨w5.heap.size, 0, none⟩ = _ := (hc9 _ _ h7lt).trans h7i0
  have h9i1 : w9.cell? ⟨w5.heap.size, 1, none⟩ = _ := (hc9 _ _ h7lt).trans h7i1
  have h9i2 : w9.cell? ⟨w5.heap.size, 2, none⟩ = _ := (hc9 _ _ h7lt).trans h7i2
  have HU9 := Lib.hid (Blk.below HU8.out hb9 (Blk.lt HU8.out))
  have hB10 : Below w1.heap.size w1 w9 := hB7.trans (hB9.mono hB7.size)
  clear h7i0 h7i1 h7i2 hc9 hf9 h8c HC8 HU8 hb9
  go_wp2_with fail
  generalize hW10 : w9.alloc (.cells #[.int .i64 1, .int .i64 0, .string ⟨#[]⟩, .int .i64 1, .int .i64 0, .string ⟨#[]⟩, .int .i64 1, .int .i64 0, .string ⟨#[]⟩] 23) = W10
  have h10 : TysBlk W10 w9.heap.size [intTy, intTy, intTy] := by rw [← hW10]; exact Blk.new _ _ _
  have h10b : Below w9.heap.size w9 W10 := by rw [← hW10]; (repeat (first | exact Below.refl _ _ | assumption | refine Below.trans ?_ (Below.mono (by assumption) (by first | omega | (simp; done) | (simp; omega))) | refine Below.alloc ?_ (by first | omega | (simp; done) | (simp; omega)) _ | refine Below.setCell ?_ (by first | omega | (simp; done) | (simp; omega)) _ | refine Below.drew ?_ | refine below_drewN ?_ _))
  have HU10 := Lib.hid (Blk.below HU9.out h10b (Blk.lt HU9.out))
  clear hW10 HU9
  refine (Equal_any _ _ 3 3 3 3 [intTy, intTy, intTy] [intTy, intTy, intTy] W10 (TysBlk.row HU10.out) (TysBlk.row h10) rfl rfl (by omega)).mono ?_
  rintro e w11 ⟨rfl, hb11⟩
  rw [tysEq_refl]
  have hB11 : Below w1.heap.size w1 w11 := (hB10.trans (h10b.mono hB10.size)).trans (hb11.mono (Nat.le_trans hB10.size h10b.size))
  clear h10 HU10
  go_wp2_with fail
  go_ret
  refine ⟨rfl, ?_⟩
  have hb0 : Below w.heap.size w w1 := (below_alloc w _).trans (hb1.mono (by simp))
  exact hb0.trans (hB11.mono hb0.size)

end Go.Proofs.Ytpdimehoepfgaaa
