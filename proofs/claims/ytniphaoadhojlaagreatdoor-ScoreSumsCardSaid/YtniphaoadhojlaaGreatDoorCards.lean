/-
  DERIVED. GIVEN WITH THE SEED: THE CARDS: each row of YtniphaoadhojlaaGreatDoorRows.lean that lists a variable, with what it lists TIED to the program's text (the seventh form; the later family's looks); each row that meets fmt, with fmt's text TOLD by the authors' own Lean function (tested against real Go, not proved from fmt's source: count such statements apart). THE CARD IS WHAT COUNTS. Prove the row's statement (the work); the ties are given (YtniphaoadhojlaaGreatDoorTie.lean); close each card by the builder's one call (the guide's Derived/Test/ToyasCard.lean, 'card_holds'). Laid BY PROGRAM, IN A SANDBOX (cutbox-door.mjs). By AI agents, Wed Nov 11 2026. No macro, syntax, notation, axiom, sorry.
-/
import Derived.Test.YtniphaoadhojlaaGreatDoorRows
import GoSem.ClaimSeven
namespace Go.Proofs.YtniphaoadhojlaaGreatDoor
namespace Rows

/-- THE TIED CARD OF 'concordlaw12.ScoreSums'. -/
def scoreSumsCard : Claim7 := { stood := { row := scoreSumsRow, standIns := [], harness := (true, "87b6b2fc51278948b6a31374c798db6f34904cdbfcf50a94134a8ff30d07d2e2"), looks := true }, kinds := [], alts := [], laidByText := true, laidKinds := [.data, .data, .data, .sentinel, .sentinel, .sentinel, .sentinel, .sentinel, .sentinel, .sentinel, .sentinel, .sentinel, .sentinel, .sentinel, .sentinel, .sentinel, .sentinel, .sentinel, .sentinel, .sentinel, .sentinel, .sentinel, .sentinel, .sentinel, .sentinel, .sentinel, .sentinel, .sentinel, .sentinel, .data, .data, .data, .data, .data], laidTests := true, laidLooks := .later }
def ScoreSumsCardSaid : Prop := Claim7.holds Tryz.pinned (.plain (OpenSpec.ofChange scoreSumsSpec)) scoreSumsCard

/-- THE SECOND FORM's CARD OF 'concordlaw12.ScoreSums'. -/
def scoreSumsUptoCard : Claim7 := { stood := { row := scoreSumsUptoRow, standIns := [], harness := (true, "87b6b2fc51278948b6a31374c798db6f34904cdbfcf50a94134a8ff30d07d2e2"), looks := true }, kinds := [], alts := [], laidByText := true, laidKinds := [.data, .data, .data, .sentinel, .sentinel, .sentinel, .sentinel, .sentinel, .sentinel, .sentinel, .sentinel, .sentinel, .sentinel, .sentinel, .sentinel, .sentinel, .sentinel, .sentinel, .sentinel, .sentinel, .sentinel, .sentinel, .sentinel, .sentinel, .sentinel, .sentinel, .sentinel, .sentinel, .sentinel, .data, .data, .data, .data, .data], laidTests := true, laidLooks := .later }
def ScoreSumsUptoCardSaid : Prop := Claim7.holds Tryz.pinned (.plain (OpenSpec.upto scoreSumsSpec)) scoreSumsUptoCard
end Rows
end Go.Proofs.YtniphaoadhojlaaGreatDoor
