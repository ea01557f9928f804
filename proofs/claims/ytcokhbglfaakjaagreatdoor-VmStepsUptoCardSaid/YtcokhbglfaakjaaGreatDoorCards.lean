/-
  DERIVED. GIVEN WITH THE SEED: THE CARDS: each row of YtcokhbglfaakjaaGreatDoorRows.lean that lists a variable, with what it lists TIED to the program's text (the seventh form; the later family's looks); each row that meets fmt, with fmt's text TOLD by the authors' own Lean function (tested against real Go, not proved from fmt's source: count such statements apart). THE CARD IS WHAT COUNTS. Prove the row's statement (the work); the ties are given (YtcokhbglfaakjaaGreatDoorTie.lean); close each card by the builder's one call (the guide's Derived/Test/ToyasCard.lean, 'card_holds'). Laid BY PROGRAM, IN A SANDBOX (cutbox-door.mjs). By AI agents, Wed Nov 11 2026. No macro, syntax, notation, axiom, sorry.
-/
import Derived.Test.YtcokhbglfaakjaaGreatDoorRows
import GoSem.ClaimSeven
namespace Go.Proofs.YtcokhbglfaakjaaGreatDoor
namespace Rows

/-- THE TIED CARD OF 'concordlaw23.VmRuns'. -/
def vmRunsCard : Claim7 := { stood := { row := vmRunsRow, standIns := [], harness := (true, "c3809cee9e525348e35b87042ad8b6fc155e0604ca0ce2beb0acfe715dd4bbf9"), looks := true }, kinds := [], alts := [], laidByText := true, laidKinds := [.sentinel, .sentinel, .sentinel, .sentinel, .sentinel, .sentinel, .data, .listed, .sentinel, .data, .data, .sentinel, .sentinel, .sentinel, .sentinel, .sentinel, .sentinel, .sentinel, .data, .sentinel, .sentinel, .sentinel, .sentinel, .sentinel, .sentinel, .sentinel, .sentinel, .sentinel, .sentinel], laidTests := true, laidLooks := .later }
def VmRunsCardSaid : Prop := Claim7.holds Tryz.pinned (.plain (OpenSpec.ofChange vmRunsSpec)) vmRunsCard

/-- THE TIED CARD OF 'concordlaw23.VmSteps'. -/
def vmStepsCard : Claim7 := { stood := { row := vmStepsRow, standIns := [], harness := (true, "c3809cee9e525348e35b87042ad8b6fc155e0604ca0ce2beb0acfe715dd4bbf9"), looks := true }, kinds := [], alts := [], laidByText := true, laidKinds := [.sentinel, .sentinel, .sentinel, .sentinel, .sentinel, .sentinel, .data, .listed, .sentinel, .data, .data, .sentinel, .sentinel, .sentinel, .sentinel, .sentinel, .sentinel, .sentinel, .data, .sentinel, .sentinel, .sentinel, .sentinel, .sentinel, .sentinel, .sentinel, .sentinel, .sentinel, .sentinel], laidTests := true, laidLooks := .later }
def VmStepsCardSaid : Prop := Claim7.holds Tryz.pinned (.plain (OpenSpec.ofChange vmStepsSpec)) vmStepsCard

/-- THE SECOND FORM's CARD OF 'concordlaw23.VmRuns'. -/
def vmRunsUptoCard : Claim7 := { stood := { row := vmRunsUptoRow, standIns := [], harness := (true, "c3809cee9e525348e35b87042ad8b6fc155e0604ca0ce2beb0acfe715dd4bbf9"), looks := true }, kinds := [], alts := [], laidByText := true, laidKinds := [.sentinel, .sentinel, .sentinel, .sentinel, .sentinel, .sentinel, .data, .listed, .sentinel, .data, .data, .sentinel, .sentinel, .sentinel, .sentinel, .sentinel, .sentinel, .sentinel, .data, .sentinel, .sentinel, .sentinel, .sentinel, .sentinel, .sentinel, .sentinel, .sentinel, .sentinel, .sentinel], laidTests := true, laidLooks := .later }
def VmRunsUptoCardSaid : Prop := Claim7.holds Tryz.pinned (.plain (OpenSpec.upto vmRunsSpec)) vmRunsUptoCard

/-- THE SECOND FORM's CARD OF 'concordlaw23.VmSteps'. -/
def vmStepsUptoCard : Claim7 := { stood := { row := vmStepsUptoRow, standIns := [], harness := (true, "c3809cee9e525348e35b87042ad8b6fc155e0604ca0ce2beb0acfe715dd4bbf9"), looks := true }, kinds := [], alts := [], laidByText := true, laidKinds := [.sentinel, .sentinel, .sentinel, .sentinel, .sentinel, .sentinel, .data, .listed, .sentinel, .data, .data, .sentinel, .sentinel, .sentinel, .sentinel, .sentinel, .sentinel, .sentinel, .data, .sentinel, .sentinel, .sentinel, .sentinel, .sentinel, .sentinel, .sentinel, .sentinel, .sentinel, .sentinel], laidTests := true, laidLooks := .later }
def VmStepsUptoCardSaid : Prop := Claim7.holds Tryz.pinned (.plain (OpenSpec.upto vmStepsSpec)) vmStepsUptoCard
end Rows
end Go.Proofs.YtcokhbglfaakjaaGreatDoor
