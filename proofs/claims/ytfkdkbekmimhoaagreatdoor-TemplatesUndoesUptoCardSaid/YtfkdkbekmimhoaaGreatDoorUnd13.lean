/- TemplatesUndoes: an edit, and then the edit that undoes it, gives the tree. Part 13 of 14. -/
import Derived.Test.YtfkdkbekmimhoaaGreatDoorUnd12
import Derived.Test.YtfkdkbekmimhoaaGreatDoorRows
import GoSem.ClaimSeven
import Derived.KernelRfl
/- What the cards ask of the program: closed facts, in parts. -/
namespace Go.Proofs.YtfkdkbekmimhoaaGreatDoor
open Go

set_option maxRecDepth 100000
theorem sz_funcs : (Nat.ble Tryz.prog.funcs.size 384) = true := by kernel_rfl
theorem gof0 : ((List.range 64).all fun i => !((Tryz.prog.funcs[0 + i]?).any Func.goes)) = true := by kernel_rfl
theorem gof1 : ((List.range 64).all fun i => !((Tryz.prog.funcs[64 + i]?).any Func.goes)) = true := by kernel_rfl
theorem gof2 : ((List.range 64).all fun i => !((Tryz.prog.funcs[128 + i]?).any Func.goes)) = true := by kernel_rfl
theorem gof3 : ((List.range 64).all fun i => !((Tryz.prog.funcs[192 + i]?).any Func.goes)) = true := by kernel_rfl
theorem gof4 : ((List.range 64).all fun i => !((Tryz.prog.funcs[256 + i]?).any Func.goes)) = true := by kernel_rfl
theorem gof5 : ((List.range 64).all fun i => !((Tryz.prog.funcs[320 + i]?).any Func.goes)) = true := by kernel_rfl
theorem go_in {o : Nat} (h : ((List.range 64).all fun i => !((Tryz.prog.funcs[o + i]?).any Func.goes)) = true) (i : Nat) (h1 : o ≤ i) (h2 : i < o + 64) : (Tryz.prog.funcs[i]?).any Func.goes = false := by
  have := List.all_eq_true.1 h (i - o) (List.mem_range.2 (by omega))
  rw [show o + (i - o) = i by omega] at this
  simpa using this
theorem go_at (i : Nat) : (Tryz.prog.funcs[i]?).any Func.goes = false := by
  by_cases h : i < 384
  · rcases (by omega : (0 ≤ i ∧ i < 64) ∨ (64 ≤ i ∧ i < 128) ∨ (128 ≤ i ∧ i < 192) ∨ (192 ≤ i ∧ i < 256) ∨ (256 ≤ i ∧ i < 320) ∨ (320 ≤ i ∧ i < 384)) with h1 | h1 | h1 | h1 | h1 | h1
    · exact go_in gof0 i h1.1 h1.2
    · exact go_in gof1 i h1.1 h1.2
    · exact go_in gof2 i h1.1 h1.2
    · exact go_in gof3 i h1.1 h1.2
    · exact go_in gof4 i h1.1 h1.2
    · exact go_in gof5 i h1.1 h1.2
  · rw [Array.getElem?_eq_none (Nat.le_trans (Nat.le_of_ble_eq_true sz_funcs) (by omega))]
    rfl
theorem goes_any : Tryz.prog.funcs.any Func.goes = false := by
  rw [Array.any_eq_false]
  intro i hi
  have := go_at i
  rw [Array.getElem?_eq_getElem hi] at this
  simpa using this
theorem goes_no (f : FuncId) : Tryz.prog.goes f = false := by
  unfold Program.goes
  rw [goes_any, Bool.and_false, Bool.or_false, List.any_eq_false]
  intro g _
  rw [go_at g]
  simp
theorem looks_yes : true = Tryz.prog.looks [] := by kernel_rfl
end Go.Proofs.YtfkdkbekmimhoaaGreatDoor
