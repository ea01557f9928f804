/-
  DERIVED. GIVEN WITH THE SEED: THE CARDS: each row of YtidnknhabomaiaaGreatDoorRows.lean that lists a variable, with what it lists TIED to the program's text (the seventh form; the later family's looks); each row that meets fmt, with fmt's text TOLD by the authors' own Lean function (tested against real Go, not proved from fmt's source: count such statements apart). THE CARD IS WHAT COUNTS. Prove the row's statement (the work); the ties are given (YtidnknhabomaiaaGreatDoorTie.lean); close each card by the builder's one call (the guide's Derived/Test/ToyasCard.lean, 'card_holds'). Laid BY PROGRAM, IN A SANDBOX (cutbox-door.mjs). By AI agents, Wed Nov 11 2026. No macro, syntax, notation, axiom, sorry.
-/
import Derived.Test.YtidnknhabomaiaaGreatDoorRows
import GoSem.ClaimSeven
namespace Go.Proofs.YtidnknhabomaiaaGreatDoor
namespace Rows

/-- THE TIED CARD OF 'concordlaw23.VmFuel'. -/
def vmFuelCard : Claim7 := { stood := { row := vmFuelRow, standIns := [], harness := (true, "80e215349e738a4baccb2449c950b368f7acf8c16a98d03860f590bd02fe0604"), looks := true }, kinds := [], alts := [], laidByText := true, laidKinds := [.sentinel, .sentinel, .sentinel, .sentinel, .sentinel, .sentinel, .sentinel, .sentinel, .sentinel, .sentinel, .sentinel, .sentinel, .sentinel, .sentinel, .sentinel, .sentinel, .sentinel, .sentinel, .sentinel, .sentinel, .sentinel, .sentinel, .sentinel, .sentinel, .data, .data, .listed, .data, .data], laidTests := true, laidLooks := .later }
def VmFuelCardSaid : Prop := Claim7.holds Tryz.pinned (.plain (OpenSpec.ofChange vmFuelSpec)) vmFuelCard

/-- THE TIED CARD OF 'concordlaw23.VmOwns'. -/
def vmOwnsCard : Claim7 := { stood := { row := vmOwnsRow, standIns := [], harness := (true, "80e215349e738a4baccb2449c950b368f7acf8c16a98d03860f590bd02fe0604"), looks := true }, kinds := [], alts := [], laidByText := true, laidKinds := [.sentinel, .sentinel, .sentinel, .sentinel, .sentinel, .sentinel, .sentinel, .sentinel, .sentinel, .sentinel, .sentinel, .sentinel, .sentinel, .sentinel, .sentinel, .sentinel, .sentinel, .sentinel, .sentinel, .sentinel, .sentinel, .sentinel, .sentinel, .sentinel, .data, .data, .listed, .data, .data], laidTests := true, laidLooks := .later }
def VmOwnsCardSaid : Prop := Claim7.holds Tryz.pinned (.plain (OpenSpec.ofChange vmOwnsSpec)) vmOwnsCard

/-- THE SECOND FORM's CARD OF 'concordlaw23.VmFuel'. -/
def vmFuelUptoCard : Claim7 := { stood := { row := vmFuelUptoRow, standIns := [], harness := (true, "80e215349e738a4baccb2449c950b368f7acf8c16a98d03860f590bd02fe0604"), looks := true }, kinds := [], alts := [], laidByText := true, laidKinds := [.sentinel, .sentinel, .sentinel, .sentinel, .sentinel, .sentinel, .sentinel, .sentinel, .sentinel, .sentinel, .sentinel, .sentinel, .sentinel, .sentinel, .sentinel, .sentinel, .sentinel, .sentinel, .sentinel, .sentinel, .sentinel, .sentinel, .sentinel, .sentinel, .data, .data, .listed, .data, .data], laidTests := true, laidLooks := .later }
def VmFuelUptoCardSaid : Prop := Claim7.holds Tryz.pinned (.plain (OpenSpec.upto vmFuelSpec)) vmFuelUptoCard

/-- THE SECOND FORM's CARD OF 'concordlaw23.VmOwns'. -/
def vmOwnsUptoCard : Claim7 := { stood := { row := vmOwnsUptoRow, standIns := [], harness := (true, "80e215349e738a4baccb2449c950b368f7acf8c16a98d03860f590bd02fe0604"), looks := true }, kinds := [], alts := [], laidByText := true, laidKinds := [.sentinel, .sentinel, .sentinel, .sentinel, .sentinel, .sentinel, .sentinel, .sentinel, .sentinel, .sentinel, .sentinel, .sentinel, .sentinel, .sentinel, .sentinel, .sentinel, .sentinel, .sentinel, .sentinel, .sentinel, .sentinel, .sentinel, .sentinel, .sentinel, .data, .data, .listed, .data, .data], laidTests := true, laidLooks := .later }
def VmOwnsUptoCardSaid : Prop := Claim7.holds Tryz.pinned (.plain (OpenSpec.upto vmOwnsSpec)) vmOwnsUptoCard
end Rows
end Go.Proofs.YtidnknhabomaiaaGreatDoor
