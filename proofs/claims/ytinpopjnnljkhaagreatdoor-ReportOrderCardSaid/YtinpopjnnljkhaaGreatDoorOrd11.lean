/- ReportOrder: the law returns true for every source and every diagnostics. Part 11 of 17. -/
import Derived.Test.YtinpopjnnljkhaaGreatDoorOrd10
import Derived.Test.YtinpopjnnljkhaaGreatDoorProg
import Derived.KernelRfl
/- What every law of the chapter checks first: a closed run, evaluated. -/
namespace Go.Proofs.YtinpopjnnljkhaaGreatDoor
noncomputable def X45 (f : Nat) : Option (Bx ExT) := ifB (Nat.beq f 58) (some ⟨countX⟩) (ifB (Nat.beq f 31) (some ⟨repeatX⟩) (ifB (Nat.beq f 116) (some ⟨joinX⟩) (ifB (Nat.beq f 443) (some ⟨scopeX 3⟩) none)))
set_option maxRecDepth 100000
theorem aw_run : (callX Tryz.prog X45 1000).st 5 [] ⟨.nil, 0⟩ yesK = some (.junk, ⟨.nil, 0⟩) := by kernel_rfl
end Go.Proofs.YtinpopjnnljkhaaGreatDoor
