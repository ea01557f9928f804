/-
  DERIVED. GIVEN WITH THE SEED: THE CARDS: each row of YtefgpomabdplbaaGreatDoorRows.lean that lists a variable, with what it lists TIED to the program's text (the seventh form; the later family's looks); each row that meets fmt, with fmt's text TOLD by the authors' own Lean function (tested against real Go, not proved from fmt's source: count such statements apart). THE CARD IS WHAT COUNTS. Prove the row's statement (the work); the ties are given (YtefgpomabdplbaaGreatDoorTie.lean); close each card by the builder's one call (the guide's Derived/Test/ToyasCard.lean, 'card_holds'). Laid BY PROGRAM, IN A SANDBOX (cutbox-door.mjs). By AI agents, Wed Nov 11 2026. No macro, syntax, notation, axiom, sorry.
-/
import Derived.Test.YtefgpomabdplbaaGreatDoorRows
import GoSem.ClaimSeven
namespace Go.Proofs.YtefgpomabdplbaaGreatDoor
namespace Rows

/-- THE TIED CARD OF 'concordlaw23.VmEnds'. -/
def vmEndsCard : Claim7 := { stood := { row := vmEndsRow, standIns := [], harness := (true, "f4aeaea98dedb015112e5f3c9b0cc50e8a04feb93846279fae86fc6b20b6f801"), looks := true }, kinds := [], alts := [], laidByText := true, laidKinds := [.sentinel, .sentinel, .sentinel, .sentinel, .sentinel, .sentinel, .sentinel, .sentinel, .sentinel, .sentinel, .sentinel, .sentinel, .sentinel, .sentinel, .sentinel, .sentinel, .sentinel, .sentinel, .sentinel, .sentinel, .sentinel, .sentinel, .sentinel, .sentinel, .data, .data, .listed, .data, .data], laidTests := true, laidLooks := .later }
def VmEndsCardSaid : Prop := Claim7.holds Tryz.pinned (.plain (OpenSpec.ofChange vmEndsSpec)) vmEndsCard

/-- THE TIED CARD OF 'concordlaw23.VmAlgebra'. -/
def vmAlgebraCard : Claim7 := { stood := { row := vmAlgebraRow, standIns := [], harness := (true, "f4aeaea98dedb015112e5f3c9b0cc50e8a04feb93846279fae86fc6b20b6f801"), looks := true }, kinds := [], alts := [], laidByText := true, laidKinds := [.sentinel, .sentinel, .sentinel, .sentinel, .sentinel, .sentinel, .sentinel, .sentinel, .sentinel, .sentinel, .sentinel, .sentinel, .sentinel, .sentinel, .sentinel, .data, .data, .listed, .data, .data], laidTests := true, laidLooks := .later }
def VmAlgebraCardSaid : Prop := Claim7.holds Tryz.pinned (.plain (OpenSpec.ofChange vmAlgebraSpec)) vmAlgebraCard

/-- THE SECOND FORM's CARD OF 'concordlaw23.VmEnds'. -/
def vmEndsUptoCard : Claim7 := { stood := { row := vmEndsUptoRow, standIns := [], harness := (true, "f4aeaea98dedb015112e5f3c9b0cc50e8a04feb93846279fae86fc6b20b6f801"), looks := true }, kinds := [], alts := [], laidByText := true, laidKinds := [.sentinel, .sentinel, .sentinel, .sentinel, .sentinel, .sentinel, .sentinel, .sentinel, .sentinel, .sentinel, .sentinel, .sentinel, .sentinel, .sentinel, .sentinel, .sentinel, .sentinel, .sentinel, .sentinel, .sentinel, .sentinel, .sentinel, .sentinel, .sentinel, .data, .data, .listed, .data, .data], laidTests := true, laidLooks := .later }
def VmEndsUptoCardSaid : Prop := Claim7.holds Tryz.pinned (.plain (OpenSpec.upto vmEndsSpec)) vmEndsUptoCard

/-- THE SECOND FORM's CARD OF 'concordlaw23.VmAlgebra'. -/
def vmAlgebraUptoCard : Claim7 := { stood := { row := vmAlgebraUptoRow, standIns := [], harness := (true, "f4aeaea98dedb015112e5f3c9b0cc50e8a04feb93846279fae86fc6b20b6f801"), looks := true }, kinds := [], alts := [], laidByText := true, laidKinds := [.sentinel, .sentinel, .sentinel, .sentinel, .sentinel, .sentinel, .sentinel, .sentinel, .sentinel, .sentinel, .sentinel, .sentinel, .sentinel, .sentinel, .sentinel, .data, .data, .listed, .data, .data], laidTests := true, laidLooks := .later }
def VmAlgebraUptoCardSaid : Prop := Claim7.holds Tryz.pinned (.plain (OpenSpec.upto vmAlgebraSpec)) vmAlgebraUptoCard
end Rows
end Go.Proofs.YtefgpomabdplbaaGreatDoor
