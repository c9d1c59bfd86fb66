/-
  DERIVED. GIVEN WITH THE SEED: THE CARDS: each row of YtlclpcobblojnaaGreatDoorRows.lean that lists a variable, with what it lists TIED to the program's text (the seventh form; the later family's looks); each row that meets fmt, with fmt's text TOLD by the authors' own Lean function (tested against real Go, not proved from fmt's source: count such statements apart). THE CARD IS WHAT COUNTS. Prove the row's statement (the work); the ties are given (YtlclpcobblojnaaGreatDoorTie.lean); close each card by the builder's one call (the guide's Derived/Test/ToyasCard.lean, 'card_holds'). Laid BY PROGRAM, IN A SANDBOX (cutbox-door.mjs). By AI agents, Wed Nov 11 2026. No macro, syntax, notation, axiom, sorry.
-/
import Derived.Test.YtlclpcobblojnaaGreatDoorRows
import GoSem.ClaimSeven
namespace Go.Proofs.YtlclpcobblojnaaGreatDoor
namespace Rows

/-- THE TIED CARD OF 'assessorlaw17.FlowParts'. -/
def flowPartsCard : Claim7 := { stood := { row := flowPartsRow, standIns := [], harness := (true, "cee0f9252bc8f9592c24c5a81717a0441af9a0291954826b7587a8ab66f4c668"), looks := false }, kinds := [], alts := [], laidByText := true, laidKinds := [.data, .pinned], laidTests := true, laidLooks := .later }
def FlowPartsCardSaid : Prop := Claim7.holds Tryz.pinned (.plain (OpenSpec.ofChange flowPartsSpec)) flowPartsCard

/-- THE TIED CARD OF 'assessorlaw17.FlowBlocks'. -/
def flowBlocksCard : Claim7 := { stood := { row := flowBlocksRow, standIns := [], harness := (true, "cee0f9252bc8f9592c24c5a81717a0441af9a0291954826b7587a8ab66f4c668"), looks := false }, kinds := [], alts := [], laidByText := true, laidKinds := [.data, .pinned], laidTests := true, laidLooks := .later }
def FlowBlocksCardSaid : Prop := Claim7.holds Tryz.pinned (.plain (OpenSpec.ofChange flowBlocksSpec)) flowBlocksCard

/-- THE SECOND FORM's CARD OF 'assessorlaw17.FlowParts'. -/
def flowPartsUptoCard : Claim7 := { stood := { row := flowPartsUptoRow, standIns := [], harness := (true, "cee0f9252bc8f9592c24c5a81717a0441af9a0291954826b7587a8ab66f4c668"), looks := false }, kinds := [], alts := [], laidByText := true, laidKinds := [.data, .pinned], laidTests := true, laidLooks := .later }
def FlowPartsUptoCardSaid : Prop := Claim7.holds Tryz.pinned (.plain (OpenSpec.upto flowPartsSpec)) flowPartsUptoCard

/-- THE SECOND FORM's CARD OF 'assessorlaw17.FlowBlocks'. -/
def flowBlocksUptoCard : Claim7 := { stood := { row := flowBlocksUptoRow, standIns := [], harness := (true, "cee0f9252bc8f9592c24c5a81717a0441af9a0291954826b7587a8ab66f4c668"), looks := false }, kinds := [], alts := [], laidByText := true, laidKinds := [.data, .pinned], laidTests := true, laidLooks := .later }
def FlowBlocksUptoCardSaid : Prop := Claim7.holds Tryz.pinned (.plain (OpenSpec.upto flowBlocksSpec)) flowBlocksUptoCard
end Rows
end Go.Proofs.YtlclpcobblojnaaGreatDoor
