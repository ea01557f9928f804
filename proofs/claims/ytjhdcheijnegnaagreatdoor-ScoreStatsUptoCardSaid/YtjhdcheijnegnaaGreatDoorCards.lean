/-
  DERIVED. GIVEN WITH THE SEED: THE CARDS: each row of YtjhdcheijnegnaaGreatDoorRows.lean that lists a variable, with what it lists TIED to the program's text (the seventh form; the later family's looks); each row that meets fmt, with fmt's text TOLD by the authors' own Lean function (tested against real Go, not proved from fmt's source: count such statements apart). THE CARD IS WHAT COUNTS. Prove the row's statement (the work); the ties are given (YtjhdcheijnegnaaGreatDoorTie.lean); close each card by the builder's one call (the guide's Derived/Test/ToyasCard.lean, 'card_holds'). Laid BY PROGRAM, IN A SANDBOX (cutbox-door.mjs). By AI agents, Wed Nov 11 2026. No macro, syntax, notation, axiom, sorry.
-/
import Derived.Test.YtjhdcheijnegnaaGreatDoorRows
import GoSem.ClaimSeven
namespace Go.Proofs.YtjhdcheijnegnaaGreatDoor
namespace Rows

/-- THE TIED CARD OF 'concordlaw12.ScoreStats'. -/
def scoreStatsCard : Claim7 := { stood := { row := scoreStatsRow, standIns := [], harness := (true, "3c98fa747bb5b757d1c737c227d806ef1474a5de2ae1ee3ab90b9e45cbbf9881"), looks := true }, kinds := [], alts := [], laidByText := true, laidKinds := [.sentinel, .sentinel, .sentinel, .data, .data, .data, .data, .data, .data, .data, .data, .sentinel, .sentinel, .sentinel, .sentinel, .sentinel, .sentinel, .sentinel, .sentinel, .sentinel, .sentinel, .sentinel, .sentinel, .sentinel, .sentinel, .sentinel, .sentinel, .sentinel, .sentinel, .sentinel, .sentinel, .sentinel, .sentinel, .sentinel, .data, .listed, .data, .data], laidTests := true, laidLooks := .later }
def ScoreStatsCardSaid : Prop := Claim7.holds Tryz.pinned (.plain (OpenSpec.ofChange scoreStatsSpec)) scoreStatsCard

/-- THE SECOND FORM's CARD OF 'concordlaw12.ScoreStats'. -/
def scoreStatsUptoCard : Claim7 := { stood := { row := scoreStatsUptoRow, standIns := [], harness := (true, "3c98fa747bb5b757d1c737c227d806ef1474a5de2ae1ee3ab90b9e45cbbf9881"), looks := true }, kinds := [], alts := [], laidByText := true, laidKinds := [.sentinel, .sentinel, .sentinel, .data, .data, .data, .data, .data, .data, .data, .data, .sentinel, .sentinel, .sentinel, .sentinel, .sentinel, .sentinel, .sentinel, .sentinel, .sentinel, .sentinel, .sentinel, .sentinel, .sentinel, .sentinel, .sentinel, .sentinel, .sentinel, .sentinel, .sentinel, .sentinel, .sentinel, .sentinel, .sentinel, .data, .listed, .data, .data], laidTests := true, laidLooks := .later }
def ScoreStatsUptoCardSaid : Prop := Claim7.holds Tryz.pinned (.plain (OpenSpec.upto scoreStatsSpec)) scoreStatsUptoCard
end Rows
end Go.Proofs.YtjhdcheijnegnaaGreatDoor
