import Derived.Test.YtpdimehoepfgaaaSolve
namespace Go.Proofs.Ytpdimehoepfgaaa
open Go.RowKit

theorem made_three (a b c : Value) (n : Nat) : (madeCells #[a, b, c] (n * 3)).toList = (List.replicate n [a, b, c]).flatten := by
  unfold madeCells
  rw [Array.toList_map, Array.toList_range]
  induction n with
  | zero => rfl
  | succ n ih =>
    rw [Nat.succ_mul, List.range_add, List.map_append, ih, List.replicate_succ', List.flatten_append]
    congr 1
    have h0 : (n * 3) % 3 = 0 := by omega
    have h1 : (n * 3 + 1) % 3 = 1 := by omega
    have h2 : (n * 3 + 2) % 3 = 2 := by omega
    simp [List.range_succ, h0, h1, h2]

theorem ty_info : (Try.prog.info? 23).map (fun i => (i.zero, i.size, i.bytes)) = some (some (.agg #[.int .i64 0, .int .i64 0, .string ⟨#[]⟩]), 3, 32) := by kernel_rfl
theorem bool_info : (Try.prog.info? 4).map (fun i => (i.zero, i.size, i.bytes)) = some (some (.bool false), 1, 1) := by kernel_rfl

theorem run_make_tys (n : Nat) (hn : n ≤ 1000000) (w : World) :
    (Instr.makeSlice 28 (.int .i64 (n : Int)) (.int .i64 (n : Int))).run Try.prog w = .ok (.slice (some ⟨w.heap.size, 0, none⟩) n n) (w.alloc (.cells ((List.replicate n zeroTy).flatMap tyCells).toArray 23)) := by
  obtain ⟨i0, hi0, hz0, hz1, hz2⟩ := info_parts ty_info
  have h := run_make (P := Try.prog) w 28 23 i0 _ Try.underlying28 hi0 hz0 .i64 .i64 n n (by omega) (by omega) (by rw [hz2]; omega) (by omega)
  rw [h]
  simp only [Int.toNat_natCast, hz1]
  have h2 : madeCells (Value.agg #[.int .i64 0, .int .i64 0, .string ⟨#[]⟩]).cells (n * 3) = ((List.replicate n zeroTy).flatMap tyCells).toArray := by
    apply Array.ext'
    show (madeCells #[.int .i64 0, .int .i64 0, .string ⟨#[]⟩] (n * 3)).toList = _
    rw [made_three]
    simp [List.flatMap, tyCells, zeroTy]
  rw [h2]

end Go.Proofs.Ytpdimehoepfgaaa
