/- ConstraintsExclude, walked. -/
import Derived.Test.YtpdimehoepfgaaaAwake
namespace Go.Proofs.Ytpdimehoepfgaaa
open Go.RowKit

theorem bstep {W0 a b : World} (h : Below W0.heap.size W0 a) (hb : Below a.heap.size a b) : Below W0.heap.size W0 b := h.trans (hb.mono h.size)

set_option maxHeartbeats 4000000 in
theorem lawExclude_any (k1 l1 : Int) (r1 : ByteArray) (k2 l2 : Int) (r2 : ByteArray) (w : World) :
    Calls Try.prog 3 #[.agg #[.int .i64 k1, .int .i64 l1, .string r1], .agg #[.int .i64 k2, .int .i64 l2, .string r2]] w fun e w' => e = .returned (.bool true) ∧ Below w.heap.size w w' := by
  have hcomm := exclB_comm k2 l2 r2 k1 l1 r1
  have hself := exclB_self k1 l1 r1
  go_enter Try.func3, Try.ntmps3
  go_wp2_with fail
  generalize hW0 : (w.alloc (.cells #[.int .i64 k1, .int .i64 l1, .string r1] 23)).alloc (.cells #[.int .i64 k2, .int .i64 l2, .string r2] 23) = W0
  have hb0 : Below w.heap.size w W0 := by rw [← hW0]; (repeat (first | exact Below.refl _ _ | assumption | refine Below.trans ?_ (Below.mono (by assumption) (by first | omega | (simp; done) | (simp; omega))) | refine Below.alloc ?_ (by first | omega | (simp; done) | (simp; omega)) _ | refine Below.setCell ?_ (by first | omega | (simp; done) | (simp; omega)) _ | refine Below.drew ?_ | refine below_drewN ?_ _))
  have hs0 : W0.heap.size = w.heap.size + 1 + 1 := by rw [← hW0]; simp
  have hA : Blk W0 w.heap.size 23 #[.int .i64 k1, .int .i64 l1, .string r1] := by rw [← hW0]; exact (Blk.new _ _ _).alloc _
  have hB : Blk W0 (w.heap.size + 1) 23 #[.int .i64 k2, .int .i64 l2, .string r2] := by
    have hh := Blk.new (w.alloc (.cells #[.int .i64 k1, .int .i64 l1, .string r1] 23)) 23 #[.int .i64 k2, .int .i64 l2, .string r2]
    rw [World.size_alloc, hW0] at hh
    exact hh
  have hKS : ∀ w' : World, Below W0.heap.size W0 w' → w'.cell? ⟨w.heap.size, 0, none⟩ = some (.int .i64 k1) ∧ w'.cell? ⟨w.heap.size, 1, none⟩ = some (.int .i64 l1) ∧ w'.cell? ⟨w.heap.size, 2, none⟩ = some (.string r1) ∧ w'.cell? ⟨w.heap.size + 1, 0, none⟩ = some (.int .i64 k2) ∧ w'.cell? ⟨w.heap.size + 1, 1, none⟩ = some (.int .i64 l2) ∧ w'.cell? ⟨w.heap.size + 1, 2, none⟩ = some (.string r2) := fun w' hb =>
    ⟨(hA.below hb hA.lt).cell 0, (hA.below hb hA.lt).cell 1, (hA.below hb hA.lt).cell 2, (hB.below hb hB.lt).cell 0, (hB.below hb hB.lt).cell 1, (hB.below hb hB.lt).cell 2⟩
  have HKS := Lib.hid hKS
  have hBd : Below W0.heap.size W0 W0.drew := (Below.refl _ _).drew
  clear hKS hA hB hW0 hs0
  go_region_held3 (fun w' => w'.cell? ⟨w.heap.size, 0, none⟩ = some (.int .i64 k1) ∧ w'.cell? ⟨w.heap.size, 1, none⟩ = some (.int .i64 l1) ∧ w'.cell? ⟨w.heap.size, 2, none⟩ = some (.string r1) ∧ w'.cell? ⟨w.heap.size + 1, 0, none⟩ = some (.int .i64 k2) ∧ w'.cell? ⟨w.heap.size + 1, 1, none⟩ = some (.int .i64 l2) ∧ w'.cell? ⟨w.heap.size + 1, 2, none⟩ = some (.string r2)) ((exact HKS.out _ (by assumption))) (first | (go_at_call 8; refine (Exclude_any _ _ _ _ _ _ _).mono ?_; rintro e w1 ⟨rfl, hb1⟩; have hBn := bstep (W0 := W0) (by assumption) hb1) | (go_at_call 9; refine (ExcludeR_any _ _ _ _ _ _ _).mono ?_; rintro e w1 ⟨rfl, hb1⟩; have hBn := bstep (W0 := W0) (by assumption) hb1) | (go_at_call 10; refine (awake_any _).mono ?_; rintro e w1 ⟨rfl, hb1⟩; have hBn := bstep (W0 := W0) (by assumption) hb1))
  go_wp2_with fail
  go_ret
  exact ⟨rfl, hb0.trans (Below.mono (by assumption) hb0.size)⟩

end Go.Proofs.Ytpdimehoepfgaaa
