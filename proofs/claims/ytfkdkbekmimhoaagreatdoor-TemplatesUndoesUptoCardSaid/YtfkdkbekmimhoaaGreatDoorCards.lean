/-
  DERIVED. GIVEN WITH THE SEED: THE CARDS: each row of YtfkdkbekmimhoaaGreatDoorRows.lean that lists a variable, with what it lists TIED to the program's text (the seventh form; the later family's looks); each row that meets fmt, with fmt's text TOLD by the authors' own Lean function (tested against real Go, not proved from fmt's source: count such statements apart). THE CARD IS WHAT COUNTS. Prove the row's statement (the work); the ties are given (YtfkdkbekmimhoaaGreatDoorTie.lean); close each card by the builder's one call (the guide's Derived/Test/ToyasCard.lean, 'card_holds'). Laid BY PROGRAM, IN A SANDBOX (cutbox-door.mjs). By AI agents, Wed Nov 11 2026. No macro, syntax, notation, axiom, sorry.
-/
import Derived.Test.YtfkdkbekmimhoaaGreatDoorRows
import GoSem.ClaimSeven
namespace Go.Proofs.YtfkdkbekmimhoaaGreatDoor
namespace Rows

/-- THE TIED CARD OF 'assessorlaw39.TemplatesApplies'. -/
def templatesAppliesCard : Claim7 := { stood := { row := templatesAppliesRow, standIns := [], harness := (true, "726d69b811610190378396e7573f0e4be53c1d2748efe851bda6070d906e170c"), looks := true }, kinds := [], alts := [], laidByText := true, laidKinds := [.data, .data, .data, .sentinel, .sentinel], laidTests := true, laidLooks := .later }
def TemplatesAppliesCardSaid : Prop := Claim7.holds Tryz.pinned (.plain (OpenSpec.ofChange templatesAppliesSpec)) templatesAppliesCard

/-- THE TIED CARD OF 'assessorlaw39.TemplatesUndoes'. -/
def templatesUndoesCard : Claim7 := { stood := { row := templatesUndoesRow, standIns := [], harness := (true, "726d69b811610190378396e7573f0e4be53c1d2748efe851bda6070d906e170c"), looks := true }, kinds := [], alts := [], laidByText := true, laidKinds := [.data, .data, .data, .sentinel, .sentinel], laidTests := true, laidLooks := .later }
def TemplatesUndoesCardSaid : Prop := Claim7.holds Tryz.pinned (.plain (OpenSpec.ofChange templatesUndoesSpec)) templatesUndoesCard

/-- THE SECOND FORM's CARD OF 'assessorlaw39.TemplatesApplies'. -/
def templatesAppliesUptoCard : Claim7 := { stood := { row := templatesAppliesUptoRow, standIns := [], harness := (true, "726d69b811610190378396e7573f0e4be53c1d2748efe851bda6070d906e170c"), looks := true }, kinds := [], alts := [], laidByText := true, laidKinds := [.data, .data, .data, .sentinel, .sentinel], laidTests := true, laidLooks := .later }
def TemplatesAppliesUptoCardSaid : Prop := Claim7.holds Tryz.pinned (.plain (OpenSpec.upto templatesAppliesSpec)) templatesAppliesUptoCard

/-- THE SECOND FORM's CARD OF 'assessorlaw39.TemplatesUndoes'. -/
def templatesUndoesUptoCard : Claim7 := { stood := { row := templatesUndoesUptoRow, standIns := [], harness := (true, "726d69b811610190378396e7573f0e4be53c1d2748efe851bda6070d906e170c"), looks := true }, kinds := [], alts := [], laidByText := true, laidKinds := [.data, .data, .data, .sentinel, .sentinel], laidTests := true, laidLooks := .later }
def TemplatesUndoesUptoCardSaid : Prop := Claim7.holds Tryz.pinned (.plain (OpenSpec.upto templatesUndoesSpec)) templatesUndoesUptoCard
end Rows
end Go.Proofs.YtfkdkbekmimhoaaGreatDoor
