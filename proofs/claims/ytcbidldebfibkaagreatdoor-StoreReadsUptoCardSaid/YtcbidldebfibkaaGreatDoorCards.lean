/-
  DERIVED. GIVEN WITH THE SEED: THE CARDS: each row of YtcbidldebfibkaaGreatDoorRows.lean that lists a variable, with what it lists TIED to the program's text (the seventh form; the later family's looks); each row that meets fmt, with fmt's text TOLD by the authors' own Lean function (tested against real Go, not proved from fmt's source: count such statements apart). THE CARD IS WHAT COUNTS. Prove the row's statement (the work); the ties are given (YtcbidldebfibkaaGreatDoorTie.lean); close each card by the builder's one call (the guide's Derived/Test/ToyasCard.lean, 'card_holds'). Laid BY PROGRAM, IN A SANDBOX (cutbox-door.mjs). By AI agents, Wed Nov 11 2026. No macro, syntax, notation, axiom, sorry.
-/
import Derived.Test.YtcbidldebfibkaaGreatDoorRows
import GoSem.ClaimSeven
namespace Go.Proofs.YtcbidldebfibkaaGreatDoor
namespace Rows

/-- THE TIED CARD OF 'concordlaw27.StorePacks'. -/
def storePacksCard : Claim7 := { stood := { row := storePacksRow, standIns := [], harness := (true, "dab9339be54d450d70f1626052327aed6f283c3a5ec1a8bce76e73bd930dccc0"), looks := true }, kinds := [], alts := [], laidByText := true, laidKinds := [.sentinel, .sentinel, .sentinel, .sentinel, .data, .data, .sentinel, .sentinel, .sentinel, .sentinel, .sentinel, .sentinel, .sentinel, .sentinel, .sentinel, .sentinel, .sentinel, .sentinel, .sentinel, .sentinel, .sentinel, .sentinel, .sentinel, .sentinel, .sentinel, .sentinel, .data, .listed], laidTests := true, laidLooks := .later }
def StorePacksCardSaid : Prop := Claim7.holds Tryz.pinned (.plain (OpenSpec.ofChange storePacksSpec)) storePacksCard

/-- THE TIED CARD OF 'concordlaw27.StoreMemory'. -/
def storeMemoryCard : Claim7 := { stood := { row := storeMemoryRow, standIns := [], harness := (true, "dab9339be54d450d70f1626052327aed6f283c3a5ec1a8bce76e73bd930dccc0"), looks := true }, kinds := [], alts := [], laidByText := true, laidKinds := [.sentinel, .sentinel, .sentinel, .sentinel, .data, .data, .sentinel, .sentinel, .sentinel, .sentinel, .sentinel, .sentinel, .sentinel, .sentinel, .sentinel, .sentinel, .sentinel, .sentinel, .sentinel, .sentinel, .sentinel, .sentinel, .sentinel, .sentinel, .sentinel, .sentinel, .data, .listed], laidTests := true, laidLooks := .later }
def StoreMemoryCardSaid : Prop := Claim7.holds Tryz.pinned (.plain (OpenSpec.ofChange storeMemorySpec)) storeMemoryCard

/-- THE TIED CARD OF 'concordlaw27.StoreFlip'. -/
def storeFlipCard : Claim7 := { stood := { row := storeFlipRow, standIns := [], harness := (true, "dab9339be54d450d70f1626052327aed6f283c3a5ec1a8bce76e73bd930dccc0"), looks := true }, kinds := [], alts := [], laidByText := true, laidKinds := [.sentinel, .sentinel, .sentinel, .sentinel, .data, .data, .sentinel, .sentinel, .sentinel, .sentinel, .sentinel, .sentinel, .sentinel, .sentinel, .sentinel, .sentinel, .sentinel, .sentinel, .sentinel, .sentinel, .sentinel, .sentinel, .sentinel, .sentinel, .sentinel, .sentinel, .data, .listed], laidTests := true, laidLooks := .later }
def StoreFlipCardSaid : Prop := Claim7.holds Tryz.pinned (.plain (OpenSpec.ofChange storeFlipSpec)) storeFlipCard

/-- THE TIED CARD OF 'concordlaw27.StoreOneForm'. -/
def storeOneFormCard : Claim7 := { stood := { row := storeOneFormRow, standIns := [], harness := (true, "dab9339be54d450d70f1626052327aed6f283c3a5ec1a8bce76e73bd930dccc0"), looks := true }, kinds := [], alts := [], laidByText := true, laidKinds := [.sentinel, .sentinel, .sentinel, .sentinel, .data, .data, .sentinel, .sentinel, .sentinel, .sentinel, .sentinel, .sentinel, .sentinel, .sentinel, .sentinel, .sentinel, .sentinel, .sentinel, .sentinel, .sentinel, .sentinel, .sentinel, .sentinel, .sentinel, .sentinel, .sentinel, .data, .listed], laidTests := true, laidLooks := .later }
def StoreOneFormCardSaid : Prop := Claim7.holds Tryz.pinned (.plain (OpenSpec.ofChange storeOneFormSpec)) storeOneFormCard

/-- THE TIED CARD OF 'concordlaw27.StoreReads'. -/
def storeReadsCard : Claim7 := { stood := { row := storeReadsRow, standIns := [], harness := (true, "dab9339be54d450d70f1626052327aed6f283c3a5ec1a8bce76e73bd930dccc0"), looks := true }, kinds := [], alts := [], laidByText := true, laidKinds := [.sentinel, .sentinel, .sentinel, .sentinel, .data, .data, .sentinel, .sentinel, .sentinel, .sentinel, .sentinel, .sentinel, .sentinel, .sentinel, .sentinel, .sentinel, .sentinel, .sentinel, .sentinel, .sentinel, .sentinel, .sentinel, .sentinel, .sentinel, .sentinel, .sentinel, .data, .listed, .data], laidTests := true, laidLooks := .later }
def StoreReadsCardSaid : Prop := Claim7.holds Tryz.pinned (.plain (OpenSpec.ofChange storeReadsSpec)) storeReadsCard

/-- THE SECOND FORM's CARD OF 'concordlaw27.StorePacks'. -/
def storePacksUptoCard : Claim7 := { stood := { row := storePacksUptoRow, standIns := [], harness := (true, "dab9339be54d450d70f1626052327aed6f283c3a5ec1a8bce76e73bd930dccc0"), looks := true }, kinds := [], alts := [], laidByText := true, laidKinds := [.sentinel, .sentinel, .sentinel, .sentinel, .data, .data, .sentinel, .sentinel, .sentinel, .sentinel, .sentinel, .sentinel, .sentinel, .sentinel, .sentinel, .sentinel, .sentinel, .sentinel, .sentinel, .sentinel, .sentinel, .sentinel, .sentinel, .sentinel, .sentinel, .sentinel, .data, .listed], laidTests := true, laidLooks := .later }
def StorePacksUptoCardSaid : Prop := Claim7.holds Tryz.pinned (.plain (OpenSpec.upto storePacksSpec)) storePacksUptoCard

/-- THE SECOND FORM's CARD OF 'concordlaw27.StoreMemory'. -/
def storeMemoryUptoCard : Claim7 := { stood := { row := storeMemoryUptoRow, standIns := [], harness := (true, "dab9339be54d450d70f1626052327aed6f283c3a5ec1a8bce76e73bd930dccc0"), looks := true }, kinds := [], alts := [], laidByText := true, laidKinds := [.sentinel, .sentinel, .sentinel, .sentinel, .data, .data, .sentinel, .sentinel, .sentinel, .sentinel, .sentinel, .sentinel, .sentinel, .sentinel, .sentinel, .sentinel, .sentinel, .sentinel, .sentinel, .sentinel, .sentinel, .sentinel, .sentinel, .sentinel, .sentinel, .sentinel, .data, .listed], laidTests := true, laidLooks := .later }
def StoreMemoryUptoCardSaid : Prop := Claim7.holds Tryz.pinned (.plain (OpenSpec.upto storeMemorySpec)) storeMemoryUptoCard

/-- THE SECOND FORM's CARD OF 'concordlaw27.StoreFlip'. -/
def storeFlipUptoCard : Claim7 := { stood := { row := storeFlipUptoRow, standIns := [], harness := (true, "dab9339be54d450d70f1626052327aed6f283c3a5ec1a8bce76e73bd930dccc0"), looks := true }, kinds := [], alts := [], laidByText := true, laidKinds := [.sentinel, .sentinel, .sentinel, .sentinel, .data, .data, .sentinel, .sentinel, .sentinel, .sentinel, .sentinel, .sentinel, .sentinel, .sentinel, .sentinel, .sentinel, .sentinel, .sentinel, .sentinel, .sentinel, .sentinel, .sentinel, .sentinel, .sentinel, .sentinel, .sentinel, .data, .listed], laidTests := true, laidLooks := .later }
def StoreFlipUptoCardSaid : Prop := Claim7.holds Tryz.pinned (.plain (OpenSpec.upto storeFlipSpec)) storeFlipUptoCard

/-- THE SECOND FORM's CARD OF 'concordlaw27.StoreOneForm'. -/
def storeOneFormUptoCard : Claim7 := { stood := { row := storeOneFormUptoRow, standIns := [], harness := (true, "dab9339be54d450d70f1626052327aed6f283c3a5ec1a8bce76e73bd930dccc0"), looks := true }, kinds := [], alts := [], laidByText := true, laidKinds := [.sentinel, .sentinel, .sentinel, .sentinel, .data, .data, .sentinel, .sentinel, .sentinel, .sentinel, .sentinel, .sentinel, .sentinel, .sentinel, .sentinel, .sentinel, .sentinel, .sentinel, .sentinel, .sentinel, .sentinel, .sentinel, .sentinel, .sentinel, .sentinel, .sentinel, .data, .listed], laidTests := true, laidLooks := .later }
def StoreOneFormUptoCardSaid : Prop := Claim7.holds Tryz.pinned (.plain (OpenSpec.upto storeOneFormSpec)) storeOneFormUptoCard

/-- THE SECOND FORM's CARD OF 'concordlaw27.StoreReads'. -/
def storeReadsUptoCard : Claim7 := { stood := { row := storeReadsUptoRow, standIns := [], harness := (true, "dab9339be54d450d70f1626052327aed6f283c3a5ec1a8bce76e73bd930dccc0"), looks := true }, kinds := [], alts := [], laidByText := true, laidKinds := [.sentinel, .sentinel, .sentinel, .sentinel, .data, .data, .sentinel, .sentinel, .sentinel, .sentinel, .sentinel, .sentinel, .sentinel, .sentinel, .sentinel, .sentinel, .sentinel, .sentinel, .sentinel, .sentinel, .sentinel, .sentinel, .sentinel, .sentinel, .sentinel, .sentinel, .data, .listed, .data], laidTests := true, laidLooks := .later }
def StoreReadsUptoCardSaid : Prop := Claim7.holds Tryz.pinned (.plain (OpenSpec.upto storeReadsSpec)) storeReadsUptoCard
end Rows
end Go.Proofs.YtcbidldebfibkaaGreatDoor
