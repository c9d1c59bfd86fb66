/-
  No cell of these rows narrows 'for every input' (looked for: loops, veiled, ifaces, maps, wideKeys, modest, calm, conditions, laid).
  DERIVED. THE GIVEN ROWS OF THIS SEAT. 5 by the template 'for every input the law returns true; each argument reads behind the call as it read before'; 0 by the template 'total and deterministic' (their statements: YtpdimehoepfgaaaTotals.lean).
  GIVEN WITH THE SEED: the statements are not yours to turn. If you find one false, say at which input.
  Laid BY PROGRAM, IN A SANDBOX (cutbox-rows.mjs): the forced cells as the released guide's own fill.sh prints them over the translation 99d5ee232352e6b1… (all of the seat's roots in one cut). By AI agents, Wed Nov 11 2026. No macro, syntax, notation, axiom, sorry.
-/
import Derived.Test.YtpdimehoepfgaaaChecked
import GoSem.Claim
import GoSem.ClaimJoined
import GoSem.ClaimMapViews
import Derived.JoinedTies
import Derived.KernelRfl
namespace Go.Proofs.Ytpdimehoepfgaaa
/- THE CELL 'sum', in the pinned program and in every row, IS THE sha256 OF THE DUMP (.gsa) THAT YtpdimehoepfgaaaProg.lean LOADS. Nothing in Lean hashes anything: it is a label: what it is worth is what the hold of that sum in a sandbox is worth. -/
noncomputable def Try.pinned : Pinned := { name := "ytpdimehoepfgaaa", sum := "99d5ee232352e6b1c23700b42115f598789afd5fb487a514c3cc2c40d7d71e9d", checked := Try.checked }
namespace Rows
def none {H : Type} : Left H := { results := [], args := [] }

/-- 'assessorlaw09.ConstraintsExclude': WHATEVER THE INPUT: true; the input reads as it did. -/
def constraintsExcludeSpec : ChangeSpec := { name := "constraintsExclude", fn := fun _ => fun
  | [d1, d2] => { results := [.lit (.bool true)], args := [d1, d2] }
  | _ => none }
def constraintsExcludeRow : OpenClaim := { program := "ytpdimehoepfgaaa", sum := "99d5ee232352e6b1c23700b42115f598789afd5fb487a514c3cc2c40d7d71e9d", func := "assessor/assessorlaw09.ConstraintsExclude", spec := "constraintsExclude", unfollowed := true, recurses := true, apart := false }
def ConstraintsExcludeSaid : Prop := constraintsExcludeRow.holds Try.pinned (OpenSpec.ofChange constraintsExcludeSpec)

/-- ITS FALSE NEIGHBOUR: 'it returns false'. Refute it at one input. -/
def constraintsExcludeWrong : ChangeSpec := { name := "constraintsExclude", fn := fun _ => fun
  | [d1, d2] => { results := [.lit (.bool false)], args := [d1, d2] }
  | _ => none }
def ConstraintsExcludeWrongFalsely : Prop := constraintsExcludeRow.holds Try.pinned (OpenSpec.ofChange constraintsExcludeWrong)

/-- 'assessorlaw09.ConstraintsChains': WHATEVER THE INPUT: true; the input reads as it did. -/
def constraintsChainsSpec : ChangeSpec := { name := "constraintsChains", fn := fun _ => fun
  | [d1, d2] => { results := [.lit (.bool true)], args := [d1, d2] }
  | _ => none }
def constraintsChainsRow : OpenClaim := { program := "ytpdimehoepfgaaa", sum := "99d5ee232352e6b1c23700b42115f598789afd5fb487a514c3cc2c40d7d71e9d", func := "assessor/assessorlaw09.ConstraintsChains", spec := "constraintsChains", unfollowed := true, recurses := true, apart := false }
def ConstraintsChainsSaid : Prop := constraintsChainsRow.holds Try.pinned (OpenSpec.ofChange constraintsChainsSpec)

/-- ITS FALSE NEIGHBOUR: 'it returns false'. Refute it at one input. -/
def constraintsChainsWrong : ChangeSpec := { name := "constraintsChains", fn := fun _ => fun
  | [d1, d2] => { results := [.lit (.bool false)], args := [d1, d2] }
  | _ => none }
def ConstraintsChainsWrongFalsely : Prop := constraintsChainsRow.holds Try.pinned (OpenSpec.ofChange constraintsChainsWrong)

/-- 'assessorlaw09.ConstraintsGrow': WHATEVER THE INPUT: true; the input reads as it did. -/
def constraintsGrowSpec : ChangeSpec := { name := "constraintsGrow", fn := fun _ => fun
  | [d1, d2] => { results := [.lit (.bool true)], args := [d1, d2] }
  | _ => none }
def constraintsGrowRow : OpenClaim := { program := "ytpdimehoepfgaaa", sum := "99d5ee232352e6b1c23700b42115f598789afd5fb487a514c3cc2c40d7d71e9d", func := "assessor/assessorlaw09.ConstraintsGrow", spec := "constraintsGrow", unfollowed := true, recurses := true, apart := false }
def ConstraintsGrowSaid : Prop := constraintsGrowRow.holds Try.pinned (OpenSpec.ofChange constraintsGrowSpec)

/-- ITS FALSE NEIGHBOUR: 'it returns false'. Refute it at one input. -/
def constraintsGrowWrong : ChangeSpec := { name := "constraintsGrow", fn := fun _ => fun
  | [d1, d2] => { results := [.lit (.bool false)], args := [d1, d2] }
  | _ => none }
def ConstraintsGrowWrongFalsely : Prop := constraintsGrowRow.holds Try.pinned (OpenSpec.ofChange constraintsGrowWrong)

/-- 'assessorlaw09.ConstraintsOrder': WHATEVER THE INPUT: true; the input reads as it did. -/
def constraintsOrderSpec : ChangeSpec := { name := "constraintsOrder", fn := fun _ => fun
  | [d1, d2, d3] => { results := [.lit (.bool true)], args := [d1, d2, d3] }
  | _ => none }
def constraintsOrderRow : OpenClaim := { program := "ytpdimehoepfgaaa", sum := "99d5ee232352e6b1c23700b42115f598789afd5fb487a514c3cc2c40d7d71e9d", func := "assessor/assessorlaw09.ConstraintsOrder", spec := "constraintsOrder", unfollowed := true, recurses := true, apart := false }
def ConstraintsOrderSaid : Prop := constraintsOrderRow.holds Try.pinned (OpenSpec.ofChange constraintsOrderSpec)

/-- ITS FALSE NEIGHBOUR: 'it returns false'. Refute it at one input. -/
def constraintsOrderWrong : ChangeSpec := { name := "constraintsOrder", fn := fun _ => fun
  | [d1, d2, d3] => { results := [.lit (.bool false)], args := [d1, d2, d3] }
  | _ => none }
def ConstraintsOrderWrongFalsely : Prop := constraintsOrderRow.holds Try.pinned (OpenSpec.ofChange constraintsOrderWrong)

/-- 'assessorlaw09.ConstraintsSolves': WHATEVER THE INPUT: true; the input reads as it did. -/
def constraintsSolvesSpec : ChangeSpec := { name := "constraintsSolves", fn := fun _ => fun
  | [d1, d2, d3] => { results := [.lit (.bool true)], args := [d1, d2, d3] }
  | _ => none }
def constraintsSolvesRow : OpenClaim := { program := "ytpdimehoepfgaaa", sum := "99d5ee232352e6b1c23700b42115f598789afd5fb487a514c3cc2c40d7d71e9d", func := "assessor/assessorlaw09.ConstraintsSolves", spec := "constraintsSolves", unfollowed := true, recurses := true, apart := false }
def ConstraintsSolvesSaid : Prop := constraintsSolvesRow.holds Try.pinned (OpenSpec.ofChange constraintsSolvesSpec)

/-- ITS FALSE NEIGHBOUR: 'it returns false'. Refute it at one input. -/
def constraintsSolvesWrong : ChangeSpec := { name := "constraintsSolves", fn := fun _ => fun
  | [d1, d2, d3] => { results := [.lit (.bool false)], args := [d1, d2, d3] }
  | _ => none }
def ConstraintsSolvesWrongFalsely : Prop := constraintsSolvesRow.holds Try.pinned (OpenSpec.ofChange constraintsSolvesWrong)

/- THE SECOND FORM. 'bulk': how many values and letters a reading holds, each counted each time it is reached (what is shared counts as often as it is met; a slice's spare places count too). A statement '..UptoSaid' is the law's where the arguments, and the package variables that the reading takes, are together of bulk at most 1048576: NARROWER than '..Said'. Prove '..Said' where nothing that the law and all that it calls make is longer than what came in: it says more and counts as full. Else prove '..UptoSaid'. A law counts once. -/
mutual
def uptoBulk {H : Type} : DataW H → Nat
  | .lit (.string bytes) => bytes.length + 1
  | .lit _ => 1
  | .nil => 1
  | .ptr d => uptoBulk d + 1
  | .slice elems spare => uptoBulkAll elems + uptoBulkAll spare + 1
  | .agg parts => uptoBulkAll parts + 1
  | .iface _ d => uptoBulk d + 1
  | .map entries => uptoBulkEntries entries + 1
  | .held _ => 1
def uptoBulkAll {H : Type} : List (DataW H) → Nat
  | [] => 0
  | d :: r => uptoBulk d + uptoBulkAll r
def uptoBulkEntries {H : Type} : List (Lit × DataW H) → Nat
  | [] => 0
  | x :: r => uptoBulkEntry x + uptoBulkEntries r
def uptoBulkEntry {H : Type} : Lit × DataW H → Nat
  | (.string bytes, d) => bytes.length + uptoBulk d + 1
  | (_, d) => uptoBulk d + 1
 end
def uptoSmall : (H : Type) → List (DataW H) → Bool := fun _ ds => decide (uptoBulkAll ds ≤ 1048576)
def OpenSpec.upto (s : _root_.Go.ChangeSpec) : _root_.Go.OpenSpec := { _root_.Go.OpenSpec.ofChange s with cond := some uptoSmall }

/-- 'assessorlaw09.ConstraintsExclude', WHERE WHAT IT READS IS OF BULK AT MOST 1048576: true; the input reads as it did. -/
def constraintsExcludeUptoRow : OpenClaim := { program := "ytpdimehoepfgaaa", sum := "99d5ee232352e6b1c23700b42115f598789afd5fb487a514c3cc2c40d7d71e9d", func := "assessor/assessorlaw09.ConstraintsExclude", spec := "constraintsExclude", unfollowed := true, recurses := true, apart := false, narrowed := true }
def ConstraintsExcludeUptoSaid : Prop := constraintsExcludeUptoRow.holds Try.pinned (OpenSpec.upto constraintsExcludeSpec)

/-- 'assessorlaw09.ConstraintsChains', WHERE WHAT IT READS IS OF BULK AT MOST 1048576: true; the input reads as it did. -/
def constraintsChainsUptoRow : OpenClaim := { program := "ytpdimehoepfgaaa", sum := "99d5ee232352e6b1c23700b42115f598789afd5fb487a514c3cc2c40d7d71e9d", func := "assessor/assessorlaw09.ConstraintsChains", spec := "constraintsChains", unfollowed := true, recurses := true, apart := false, narrowed := true }
def ConstraintsChainsUptoSaid : Prop := constraintsChainsUptoRow.holds Try.pinned (OpenSpec.upto constraintsChainsSpec)

/-- 'assessorlaw09.ConstraintsGrow', WHERE WHAT IT READS IS OF BULK AT MOST 1048576: true; the input reads as it did. -/
def constraintsGrowUptoRow : OpenClaim := { program := "ytpdimehoepfgaaa", sum := "99d5ee232352e6b1c23700b42115f598789afd5fb487a514c3cc2c40d7d71e9d", func := "assessor/assessorlaw09.ConstraintsGrow", spec := "constraintsGrow", unfollowed := true, recurses := true, apart := false, narrowed := true }
def ConstraintsGrowUptoSaid : Prop := constraintsGrowUptoRow.holds Try.pinned (OpenSpec.upto constraintsGrowSpec)

/-- 'assessorlaw09.ConstraintsOrder', WHERE WHAT IT READS IS OF BULK AT MOST 1048576: true; the input reads as it did. -/
def constraintsOrderUptoRow : OpenClaim := { program := "ytpdimehoepfgaaa", sum := "99d5ee232352e6b1c23700b42115f598789afd5fb487a514c3cc2c40d7d71e9d", func := "assessor/assessorlaw09.ConstraintsOrder", spec := "constraintsOrder", unfollowed := true, recurses := true, apart := false, narrowed := true }
def ConstraintsOrderUptoSaid : Prop := constraintsOrderUptoRow.holds Try.pinned (OpenSpec.upto constraintsOrderSpec)

/-- 'assessorlaw09.ConstraintsSolves', WHERE WHAT IT READS IS OF BULK AT MOST 1048576: true; the input reads as it did. -/
def constraintsSolvesUptoRow : OpenClaim := { program := "ytpdimehoepfgaaa", sum := "99d5ee232352e6b1c23700b42115f598789afd5fb487a514c3cc2c40d7d71e9d", func := "assessor/assessorlaw09.ConstraintsSolves", spec := "constraintsSolves", unfollowed := true, recurses := true, apart := false, narrowed := true }
def ConstraintsSolvesUptoSaid : Prop := constraintsSolvesUptoRow.holds Try.pinned (OpenSpec.upto constraintsSolvesSpec)

end Rows
end Go.Proofs.Ytpdimehoepfgaaa
