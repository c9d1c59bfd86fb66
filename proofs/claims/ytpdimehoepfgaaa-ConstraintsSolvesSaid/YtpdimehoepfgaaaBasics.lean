import Derived.Test.YtpdimehoepfgaaaRows
import Derived.WalkKit
import Derived.WalkSpells
import Derived.WalkLawsBesides
import Derived.Deep.QuietTactic
import Derived.BigQuiet
import Derived.Lib.Hide
namespace Go.Proofs.Ytpdimehoepfgaaa
open Go.RowKit

def coversB (k1 k2 : Int) : Bool := (k1 == 6 && (k2 == 1 || k2 == 2)) || (k1 == 5 && k2 == 3)

theorem ret_bool {a b : Bool} (h : a = b) : Ending.returned (.bool a) = .returned (.bool b) := by rw [h]

set_option maxHeartbeats 400000 in
theorem covers_any (k1 l1 : Int) (r1 : ByteArray) (k2 l2 : Int) (r2 : ByteArray) (w : World) :
    Calls Try.prog 23 #[.agg #[.int .i64 k1, .int .i64 l1, .string r1], .agg #[.int .i64 k2, .int .i64 l2, .string r2]] w fun e w' => e = .returned (.bool (coversB k1 k2)) ∧ Below w.heap.size w w' := by
  go_enter Try.func23, Try.ntmps23
  go_wp2
  all_goals
    go_ret
    exact ⟨ret_bool (by simp [coversB, *]), ((Below.refl _ _).alloc (Nat.le_refl _) _).alloc (by simp) _⟩

def isMarkB (k l : Int) (r : ByteArray) : Bool :=
  ((k == 1 || k == 2 || k == 5 || k == 6) && (l == 0 && r.toList.isEmpty)) ||
  ((k == 3) && (decide (1 ≤ l) && decide (l ≤ 8) && r.toList.isEmpty)) ||
  ((k == 4) && (l == 0 && !r.toList.isEmpty))

set_option maxHeartbeats 400000 in
theorem isMark_any (k1 l1 : Int) (r1 : ByteArray) (w : World) :
    Calls Try.prog 22 #[.agg #[.int .i64 k1, .int .i64 l1, .string r1]] w fun e w' => e = .returned (.bool (isMarkB k1 l1 r1)) ∧ Below w.heap.size w w' := by
  go_enter Try.func22, Try.ntmps22
  go_wp2
  all_goals
    go_ret
    refine ⟨ret_bool ?_, (Below.refl _ _).alloc (Nat.le_refl _) _⟩
    simp_all (config := { decide := true }) [isMarkB]
    try omega

set_option maxHeartbeats 400000 in
theorem IsMark_any (k1 l1 : Int) (r1 : ByteArray) (w : World) :
    Calls Try.prog 24 #[.agg #[.int .i64 k1, .int .i64 l1, .string r1]] w fun e w' => e = .returned (.bool (isMarkB k1 l1 r1)) ∧ Below w.heap.size w w' := by
  go_enter Try.func24, Try.ntmps24
  go_wp2
  all_goals
    go_ret
    refine ⟨ret_bool ?_, (Below.refl _ _).alloc (Nat.le_refl _) _⟩
    simp_all (config := { decide := true }) [isMarkB]
    try omega

def eqTy (k1 l1 : Int) (r1 : ByteArray) (k2 l2 : Int) (r2 : ByteArray) : Bool := k1 == k2 && l1 == l2 && r1.toList == r2.toList

def fitsB (k1 l1 : Int) (r1 : ByteArray) (k2 l2 : Int) (r2 : ByteArray) : Bool := eqTy k1 l1 r1 k2 l2 r2 || coversB k1 k2

set_option maxHeartbeats 400000 in
theorem fits_any (k1 l1 : Int) (r1 : ByteArray) (k2 l2 : Int) (r2 : ByteArray) (w : World) :
    Calls Try.prog 25 #[.agg #[.int .i64 k1, .int .i64 l1, .string r1], .agg #[.int .i64 k2, .int .i64 l2, .string r2]] w fun e w' => e = .returned (.bool (fitsB k1 l1 r1 k2 l2 r2)) ∧ Below w.heap.size w w' := by
  go_enter Try.func25, Try.ntmps25
  go_wp2
  all_goals
    go_ret
    refine ⟨ret_bool ?_, ((Below.refl _ _).alloc (Nat.le_refl _) _).alloc (by simp) _⟩
    simp_all (config := { decide := true }) [fitsB, eqTy, coversB]

theorem bcell {W w1 : World} (hb : Below W.heap.size W w1) : (∀ b o, b < W.heap.size → w1.cell? ⟨b, o, none⟩ = W.cell? ⟨b, o, none⟩) ∧ (∀ b o, b < W.heap.size → w1.frozen? ⟨b, o, none⟩ = W.frozen? ⟨b, o, none⟩) :=
  ⟨fun b o h => hb.cell (p := ⟨b, o, none⟩) h, fun b o h => hb.frozen (p := ⟨b, o, none⟩) h⟩
theorem below_drewN {B : Nat} {a w : World} (h : Below B a w) (n : Nat) : Below B a (w.drewN n) := ⟨h.os, h.tape, h.output, h.size, h.block⟩

end Go.Proofs.Ytpdimehoepfgaaa
