/- TemplatesUndoes: an edit, and then the edit that undoes it, gives the tree. Part 6 of 14. -/
import Derived.Test.YtfkdkbekmimhoaaGreatDoorUnd05
import Derived.Test.YtfkdkbekmimhoaaGreatDoorProg
import Derived.KernelRfl
/- What every law of the chapter checks first: a closed run, evaluated. -/
namespace Go.Proofs.YtfkdkbekmimhoaaGreatDoor
noncomputable def X39 (f : Nat) : Option (Bx ExT) := ifB (Nat.beq f 171) (some ⟨growX 24⟩) none
set_option maxRecDepth 100000
theorem aw_run : (callX Tryz.prog X39 1000).st 5 [] ⟨.nil, 0⟩ yesK = some .yes := by kernel_rfl
end Go.Proofs.YtfkdkbekmimhoaaGreatDoor
