/-
  NARROWER THAN 'FOR EVERY INPUT', by the rows' own cells (each row's printed sentence says how): NamesResolves: loops · NamesVisibleAt: loops · ConstraintsCollects: loops.
  DERIVED. THE GIVEN ROWS OF THIS SEAT. 7 by the template 'for every input the law returns true; each argument reads behind the call as it read before'; 0 by the template 'total and deterministic' (their statements: YtoepemlnlpamlaaGreatTotals.lean).
  GIVEN WITH THE SEED: the statements are not yours to turn. If you find one false, say at which input.
  Laid BY PROGRAM, IN A SANDBOX (cutbox-rows.mjs): the forced cells as the released guide's own fill.sh prints them over the translation de7b9439eba2585b… (all of the seat's roots in one cut). By AI agents, Wed Nov 11 2026. No macro, syntax, notation, axiom, sorry.
-/
import Derived.Test.YtoepemlnlpamlaaGreatChecked
import GoSem.Claim
import GoSem.ClaimJoined
import GoSem.ClaimMapViews
import Derived.JoinedTies
import Derived.KernelRfl
namespace Go.Proofs.YtoepemlnlpamlaaGreat
/- THE CELL 'sum', in the pinned program and in every row, IS THE sha256 OF THE DUMP (.gsa) THAT YtoepemlnlpamlaaGreatProg.lean LOADS. Nothing in Lean hashes anything: it is a label: what it is worth is what the hold of that sum in a sandbox is worth. -/
noncomputable def Tryz.pinned : Pinned := { name := "ytoepemlnlpamlaagreat", sum := "de7b9439eba2585b636a146c3ca8598eeade4215f5f5e56461836d7691858432", checked := Tryz.checked }
namespace Rows
def none {H : Type} : Left H := { results := [], args := [] }

/-- 'assessorlaw07.NamesResolves': WHATEVER THE INPUT: true; the input reads as it did. -/
def namesResolvesSpec : ChangeSpec := { name := "namesResolves", fn := fun _ => fun
  | [d] => { results := [.lit (.bool true)], args := [d] }
  | _ => none }
def namesResolvesRow : OpenClaim := { program := "ytoepemlnlpamlaagreat", sum := "de7b9439eba2585b636a146c3ca8598eeade4215f5f5e56461836d7691858432", func := "assessor/assessorlaw07.NamesResolves", spec := "namesResolves", unfollowed := true, recurses := true, loops := true, apart := false }
def NamesResolvesSaid : Prop := namesResolvesRow.holds Tryz.pinned (OpenSpec.ofChange namesResolvesSpec)

/-- ITS FALSE NEIGHBOUR: 'it returns false'. Refute it at one input. -/
def namesResolvesWrong : ChangeSpec := { name := "namesResolves", fn := fun _ => fun
  | [d] => { results := [.lit (.bool false)], args := [d] }
  | _ => none }
def NamesResolvesWrongFalsely : Prop := namesResolvesRow.holds Tryz.pinned (OpenSpec.ofChange namesResolvesWrong)

/-- 'assessorlaw07.NamesVisibleAt': WHATEVER THE INPUT: true; the input reads as it did. -/
def namesVisibleAtSpec : ChangeSpec := { name := "namesVisibleAt", fn := fun _ => fun
  | [d1, d2] => { results := [.lit (.bool true)], args := [d1, d2] }
  | _ => none }
def namesVisibleAtRow : OpenClaim := { program := "ytoepemlnlpamlaagreat", sum := "de7b9439eba2585b636a146c3ca8598eeade4215f5f5e56461836d7691858432", func := "assessor/assessorlaw07.NamesVisibleAt", spec := "namesVisibleAt", unfollowed := true, recurses := true, loops := true, apart := false }
def NamesVisibleAtSaid : Prop := namesVisibleAtRow.holds Tryz.pinned (OpenSpec.ofChange namesVisibleAtSpec)

/-- ITS FALSE NEIGHBOUR: 'it returns false'. Refute it at one input. -/
def namesVisibleAtWrong : ChangeSpec := { name := "namesVisibleAt", fn := fun _ => fun
  | [d1, d2] => { results := [.lit (.bool false)], args := [d1, d2] }
  | _ => none }
def NamesVisibleAtWrongFalsely : Prop := namesVisibleAtRow.holds Tryz.pinned (OpenSpec.ofChange namesVisibleAtWrong)

/-- 'assessorlaw07.NamesStand': WHATEVER THE INPUT: true; the input reads as it did. -/
def namesStandSpec : ChangeSpec := { name := "namesStand", fn := fun _ => fun
  | [d1, d2] => { results := [.lit (.bool true)], args := [d1, d2] }
  | _ => none }
def namesStandRow : OpenClaim := { program := "ytoepemlnlpamlaagreat", sum := "de7b9439eba2585b636a146c3ca8598eeade4215f5f5e56461836d7691858432", func := "assessor/assessorlaw07.NamesStand", spec := "namesStand", unfollowed := true, recurses := true, apart := false }
def NamesStandSaid : Prop := namesStandRow.holds Tryz.pinned (OpenSpec.ofChange namesStandSpec)

/-- ITS FALSE NEIGHBOUR: 'it returns false'. Refute it at one input. -/
def namesStandWrong : ChangeSpec := { name := "namesStand", fn := fun _ => fun
  | [d1, d2] => { results := [.lit (.bool false)], args := [d1, d2] }
  | _ => none }
def NamesStandWrongFalsely : Prop := namesStandRow.holds Tryz.pinned (OpenSpec.ofChange namesStandWrong)

/-- 'assessorlaw07.NamesOrder': WHATEVER THE INPUT: true; the input reads as it did. -/
def namesOrderSpec : ChangeSpec := { name := "namesOrder", fn := fun _ => fun
  | [d1, d2, d3] => { results := [.lit (.bool true)], args := [d1, d2, d3] }
  | _ => none }
def namesOrderRow : OpenClaim := { program := "ytoepemlnlpamlaagreat", sum := "de7b9439eba2585b636a146c3ca8598eeade4215f5f5e56461836d7691858432", func := "assessor/assessorlaw07.NamesOrder", spec := "namesOrder", unfollowed := true, recurses := true, apart := false }
def NamesOrderSaid : Prop := namesOrderRow.holds Tryz.pinned (OpenSpec.ofChange namesOrderSpec)

/-- ITS FALSE NEIGHBOUR: 'it returns false'. Refute it at one input. -/
def namesOrderWrong : ChangeSpec := { name := "namesOrder", fn := fun _ => fun
  | [d1, d2, d3] => { results := [.lit (.bool false)], args := [d1, d2, d3] }
  | _ => none }
def NamesOrderWrongFalsely : Prop := namesOrderRow.holds Tryz.pinned (OpenSpec.ofChange namesOrderWrong)

/-- 'assessorlaw07.NamesFreeAt': WHATEVER THE INPUT: true; the input reads as it did. -/
def namesFreeAtSpec : ChangeSpec := { name := "namesFreeAt", fn := fun _ => fun
  | [d1, d2] => { results := [.lit (.bool true)], args := [d1, d2] }
  | _ => none }
def namesFreeAtRow : OpenClaim := { program := "ytoepemlnlpamlaagreat", sum := "de7b9439eba2585b636a146c3ca8598eeade4215f5f5e56461836d7691858432", func := "assessor/assessorlaw07.NamesFreeAt", spec := "namesFreeAt", unfollowed := true, recurses := true, apart := false }
def NamesFreeAtSaid : Prop := namesFreeAtRow.holds Tryz.pinned (OpenSpec.ofChange namesFreeAtSpec)

/-- ITS FALSE NEIGHBOUR: 'it returns false'. Refute it at one input. -/
def namesFreeAtWrong : ChangeSpec := { name := "namesFreeAt", fn := fun _ => fun
  | [d1, d2] => { results := [.lit (.bool false)], args := [d1, d2] }
  | _ => none }
def NamesFreeAtWrongFalsely : Prop := namesFreeAtRow.holds Tryz.pinned (OpenSpec.ofChange namesFreeAtWrong)

/-- 'assessorlaw07.NamesBack': WHATEVER THE INPUT: true; the input reads as it did. -/
def namesBackSpec : ChangeSpec := { name := "namesBack", fn := fun _ => fun
  | [d1, d2] => { results := [.lit (.bool true)], args := [d1, d2] }
  | _ => none }
def namesBackRow : OpenClaim := { program := "ytoepemlnlpamlaagreat", sum := "de7b9439eba2585b636a146c3ca8598eeade4215f5f5e56461836d7691858432", func := "assessor/assessorlaw07.NamesBack", spec := "namesBack", inPlace := ["internal/bytealg.IndexByteString", "internal/bytealg.IndexString"], unfollowed := true, recurses := true, named := ["internal/bytealg.MaxLen"], apart := false }
def NamesBackSaid : Prop := namesBackRow.holds Tryz.pinned (OpenSpec.ofChange namesBackSpec)

/-- ITS FALSE NEIGHBOUR: 'it returns false'. Refute it at one input. -/
def namesBackWrong : ChangeSpec := { name := "namesBack", fn := fun _ => fun
  | [d1, d2] => { results := [.lit (.bool false)], args := [d1, d2] }
  | _ => none }
def NamesBackWrongFalsely : Prop := namesBackRow.holds Tryz.pinned (OpenSpec.ofChange namesBackWrong)

/-- 'assessorlaw09.ConstraintsCollects': WHATEVER THE INPUT: true; the input reads as it did. -/
def constraintsCollectsSpec : ChangeSpec := { name := "constraintsCollects", fn := fun _ => fun
  | [d] => { results := [.lit (.bool true)], args := [d] }
  | _ => none }
def constraintsCollectsRow : OpenClaim := { program := "ytoepemlnlpamlaagreat", sum := "de7b9439eba2585b636a146c3ca8598eeade4215f5f5e56461836d7691858432", func := "assessor/assessorlaw09.ConstraintsCollects", spec := "constraintsCollects", unfollowed := true, recurses := true, loops := true, apart := false }
def ConstraintsCollectsSaid : Prop := constraintsCollectsRow.holds Tryz.pinned (OpenSpec.ofChange constraintsCollectsSpec)

/-- ITS FALSE NEIGHBOUR: 'it returns false'. Refute it at one input. -/
def constraintsCollectsWrong : ChangeSpec := { name := "constraintsCollects", fn := fun _ => fun
  | [d] => { results := [.lit (.bool false)], args := [d] }
  | _ => none }
def ConstraintsCollectsWrongFalsely : Prop := constraintsCollectsRow.holds Tryz.pinned (OpenSpec.ofChange constraintsCollectsWrong)

/- THE SECOND FORM. 'bulk': how many values and letters a reading holds, each counted each time it is reached (what is shared counts as often as it is met; a slice's spare places count too). A statement '..UptoSaid' is the law's where the arguments, and the package variables that the reading takes, are together of bulk at most 1048576: NARROWER than '..Said'. Prove '..Said' where nothing that the law and all that it calls make is longer than what came in: it says more and counts as full. Else prove '..UptoSaid'. A law counts once. -/
mutual
def uptoBulk {H : Type} : DataW H → Nat
  | .lit (.string bytes) => bytes.length + 1
  | .lit _ => 1
  | .nil => 1
  | .ptr d => uptoBulk d + 1
  | .slice elems spare => uptoBulkAll elems + uptoBulkAll spare + 1
  | .agg parts => uptoBulkAll parts + 1
  | .iface _ d => uptoBulk d + 1
  | .map entries => uptoBulkEntries entries + 1
  | .held _ => 1
def uptoBulkAll {H : Type} : List (DataW H) → Nat
  | [] => 0
  | d :: r => uptoBulk d + uptoBulkAll r
def uptoBulkEntries {H : Type} : List (Lit × DataW H) → Nat
  | [] => 0
  | x :: r => uptoBulkEntry x + uptoBulkEntries r
def uptoBulkEntry {H : Type} : Lit × DataW H → Nat
  | (.string bytes, d) => bytes.length + uptoBulk d + 1
  | (_, d) => uptoBulk d + 1
 end
def uptoSmall : (H : Type) → List (DataW H) → Bool := fun _ ds => decide (uptoBulkAll ds ≤ 1048576)
def OpenSpec.upto (s : _root_.Go.ChangeSpec) : _root_.Go.OpenSpec := { _root_.Go.OpenSpec.ofChange s with cond := some uptoSmall }

/-- 'assessorlaw07.NamesResolves', WHERE WHAT IT READS IS OF BULK AT MOST 1048576: true; the input reads as it did. -/
def namesResolvesUptoRow : OpenClaim := { program := "ytoepemlnlpamlaagreat", sum := "de7b9439eba2585b636a146c3ca8598eeade4215f5f5e56461836d7691858432", func := "assessor/assessorlaw07.NamesResolves", spec := "namesResolves", unfollowed := true, recurses := true, loops := true, apart := false, narrowed := true }
def NamesResolvesUptoSaid : Prop := namesResolvesUptoRow.holds Tryz.pinned (OpenSpec.upto namesResolvesSpec)

/-- 'assessorlaw07.NamesVisibleAt', WHERE WHAT IT READS IS OF BULK AT MOST 1048576: true; the input reads as it did. -/
def namesVisibleAtUptoRow : OpenClaim := { program := "ytoepemlnlpamlaagreat", sum := "de7b9439eba2585b636a146c3ca8598eeade4215f5f5e56461836d7691858432", func := "assessor/assessorlaw07.NamesVisibleAt", spec := "namesVisibleAt", unfollowed := true, recurses := true, loops := true, apart := false, narrowed := true }
def NamesVisibleAtUptoSaid : Prop := namesVisibleAtUptoRow.holds Tryz.pinned (OpenSpec.upto namesVisibleAtSpec)

/-- 'assessorlaw07.NamesStand', WHERE WHAT IT READS IS OF BULK AT MOST 1048576: true; the input reads as it did. -/
def namesStandUptoRow : OpenClaim := { program := "ytoepemlnlpamlaagreat", sum := "de7b9439eba2585b636a146c3ca8598eeade4215f5f5e56461836d7691858432", func := "assessor/assessorlaw07.NamesStand", spec := "namesStand", unfollowed := true, recurses := true, apart := false, narrowed := true }
def NamesStandUptoSaid : Prop := namesStandUptoRow.holds Tryz.pinned (OpenSpec.upto namesStandSpec)

/-- 'assessorlaw07.NamesOrder', WHERE WHAT IT READS IS OF BULK AT MOST 1048576: true; the input reads as it did. -/
def namesOrderUptoRow : OpenClaim := { program := "ytoepemlnlpamlaagreat", sum := "de7b9439eba2585b636a146c3ca8598eeade4215f5f5e56461836d7691858432", func := "assessor/assessorlaw07.NamesOrder", spec := "namesOrder", unfollowed := true, recurses := true, apart := false, narrowed := true }
def NamesOrderUptoSaid : Prop := namesOrderUptoRow.holds Tryz.pinned (OpenSpec.upto namesOrderSpec)

/-- 'assessorlaw07.NamesFreeAt', WHERE WHAT IT READS IS OF BULK AT MOST 1048576: true; the input reads as it did. -/
def namesFreeAtUptoRow : OpenClaim := { program := "ytoepemlnlpamlaagreat", sum := "de7b9439eba2585b636a146c3ca8598eeade4215f5f5e56461836d7691858432", func := "assessor/assessorlaw07.NamesFreeAt", spec := "namesFreeAt", unfollowed := true, recurses := true, apart := false, narrowed := true }
def NamesFreeAtUptoSaid : Prop := namesFreeAtUptoRow.holds Tryz.pinned (OpenSpec.upto namesFreeAtSpec)

/-- 'assessorlaw07.NamesBack', WHERE WHAT IT READS IS OF BULK AT MOST 1048576: true; the input reads as it did. -/
def namesBackUptoRow : OpenClaim := { program := "ytoepemlnlpamlaagreat", sum := "de7b9439eba2585b636a146c3ca8598eeade4215f5f5e56461836d7691858432", func := "assessor/assessorlaw07.NamesBack", spec := "namesBack", inPlace := ["internal/bytealg.IndexByteString", "internal/bytealg.IndexString"], unfollowed := true, recurses := true, named := ["internal/bytealg.MaxLen"], apart := false, narrowed := true }
def NamesBackUptoSaid : Prop := namesBackUptoRow.holds Tryz.pinned (OpenSpec.upto namesBackSpec)

/-- 'assessorlaw09.ConstraintsCollects', WHERE WHAT IT READS IS OF BULK AT MOST 1048576: true; the input reads as it did. -/
def constraintsCollectsUptoRow : OpenClaim := { program := "ytoepemlnlpamlaagreat", sum := "de7b9439eba2585b636a146c3ca8598eeade4215f5f5e56461836d7691858432", func := "assessor/assessorlaw09.ConstraintsCollects", spec := "constraintsCollects", unfollowed := true, recurses := true, loops := true, apart := false, narrowed := true }
def ConstraintsCollectsUptoSaid : Prop := constraintsCollectsUptoRow.holds Tryz.pinned (OpenSpec.upto constraintsCollectsSpec)

end Rows
end Go.Proofs.YtoepemlnlpamlaaGreat
