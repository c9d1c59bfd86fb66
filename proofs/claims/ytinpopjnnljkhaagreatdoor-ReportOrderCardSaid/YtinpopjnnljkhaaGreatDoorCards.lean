/-
  DERIVED. GIVEN WITH THE SEED: THE CARDS: each row of YtinpopjnnljkhaaGreatDoorRows.lean that lists a variable, with what it lists TIED to the program's text (the seventh form; the later family's looks); each row that meets fmt, with fmt's text TOLD by the authors' own Lean function (tested against real Go, not proved from fmt's source: count such statements apart). THE CARD IS WHAT COUNTS. Prove the row's statement (the work); the ties are given (YtinpopjnnljkhaaGreatDoorTie.lean); close each card by the builder's one call (the guide's Derived/Test/ToyasCard.lean, 'card_holds'). Laid BY PROGRAM, IN A SANDBOX (cutbox-door.mjs). By AI agents, Wed Nov 11 2026. No macro, syntax, notation, axiom, sorry.
-/
import Derived.Test.YtinpopjnnljkhaaGreatDoorRows
import GoSem.ClaimSeven
namespace Go.Proofs.YtinpopjnnljkhaaGreatDoor
namespace Rows

/-- THE TIED CARD OF 'assessorlaw45.ReportCoverage'. -/
def reportCoverageCard : Claim7 := { stood := { row := reportCoverageRow, standIns := [], harness := (true, "a3a0e2dca16a8d2cd6ff7c88b4e02cb7293ad5403a67ef37144f346552890474"), looks := true }, kinds := [], alts := [], laidByText := true, laidKinds := [.data, .data, .data, .data, .pinned], laidTests := true, laidLooks := .later }
def ReportCoverageCardSaid : Prop := Claim7.holds Tryz.pinned (.plain (OpenSpec.ofChange reportCoverageSpec)) reportCoverageCard

/-- THE TIED CARD OF 'assessorlaw45.ReportOrder'. -/
def reportOrderCard : Claim7 := { stood := { row := reportOrderRow, standIns := [], harness := (true, "a3a0e2dca16a8d2cd6ff7c88b4e02cb7293ad5403a67ef37144f346552890474"), looks := true }, kinds := [], alts := [], laidByText := true, laidKinds := [.data, .data, .data, .data, .pinned], laidTests := true, laidLooks := .later }
def ReportOrderCardSaid : Prop := Claim7.holds Tryz.pinned (.plain (OpenSpec.ofChange reportOrderSpec)) reportOrderCard

/-- THE SECOND FORM's CARD OF 'assessorlaw45.ReportCoverage'. -/
def reportCoverageUptoCard : Claim7 := { stood := { row := reportCoverageUptoRow, standIns := [], harness := (true, "a3a0e2dca16a8d2cd6ff7c88b4e02cb7293ad5403a67ef37144f346552890474"), looks := true }, kinds := [], alts := [], laidByText := true, laidKinds := [.data, .data, .data, .data, .pinned], laidTests := true, laidLooks := .later }
def ReportCoverageUptoCardSaid : Prop := Claim7.holds Tryz.pinned (.plain (OpenSpec.upto reportCoverageSpec)) reportCoverageUptoCard

/-- THE SECOND FORM's CARD OF 'assessorlaw45.ReportOrder'. -/
def reportOrderUptoCard : Claim7 := { stood := { row := reportOrderUptoRow, standIns := [], harness := (true, "a3a0e2dca16a8d2cd6ff7c88b4e02cb7293ad5403a67ef37144f346552890474"), looks := true }, kinds := [], alts := [], laidByText := true, laidKinds := [.data, .data, .data, .data, .pinned], laidTests := true, laidLooks := .later }
def ReportOrderUptoCardSaid : Prop := Claim7.holds Tryz.pinned (.plain (OpenSpec.upto reportOrderSpec)) reportOrderUptoCard
end Rows
end Go.Proofs.YtinpopjnnljkhaaGreatDoor
