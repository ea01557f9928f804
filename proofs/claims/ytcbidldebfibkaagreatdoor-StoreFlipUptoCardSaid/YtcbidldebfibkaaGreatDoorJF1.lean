import Derived.Test.YtcbidldebfibkaaGreatDoorJ1
set_option linter.unusedVariables false
set_option linter.unusedSimpArgs false
set_option linter.unusedSectionVars false
set_option linter.unnecessarySimpa false
namespace Go.Proofs.YtcbidldebfibkaaGreatDoor
open Go
set_option maxRecDepth 100000
theorem fk10 : ((Rows.storeFlipUptoRow.unfollowed == Tryz.pinned.checked.prog.unfollowed 5)) = true := by kernel_rfl
theorem fk11 : ((Rows.storeFlipUptoRow.recurses == Tryz.pinned.checked.prog.recurses 5)) = true := by kernel_rfl
theorem fk12 : ((Rows.storeFlipUptoRow.named == Tryz.pinned.checked.prog.varsNamed 5)) = true := by kernel_rfl
theorem fk13 : ((Rows.storeFlipUptoRow.maps == (Tryz.f5.params.toList ++ (Rows.OpenSpec.upto Rows.storeFlipSpec).bare.plain.varTypes Tryz.pinned.checked.prog).any (Tryz.pinned.checked.prog.mapsRec ·))) = true := by kernel_rfl
theorem fk14 : ((Rows.storeFlipUptoRow.ifaces == (Tryz.f5.params.toList ++ (Rows.OpenSpec.upto Rows.storeFlipSpec).bare.plain.varTypes Tryz.pinned.checked.prog).any (Tryz.pinned.checked.prog.ifacesRec ·))) = true := by kernel_rfl
theorem fk15 : ((Rows.storeFlipUptoRow.mapsOut == Tryz.pinned.checked.prog.mapsAmong Tryz.f5.resultTypes.toList)) = true := by kernel_rfl
theorem fk16 : ((Rows.storeFlipUptoRow.loops == (Tryz.f5.params.toList ++ (Rows.OpenSpec.upto Rows.storeFlipSpec).bare.plain.varTypes Tryz.pinned.checked.prog).any (Tryz.pinned.checked.prog.loopsFrom ·))) = true := by kernel_rfl
theorem fk17 : ((Rows.storeFlipUptoRow.wideKeys == (Tryz.f5.params.toList ++ (Rows.OpenSpec.upto Rows.storeFlipSpec).bare.plain.varTypes Tryz.pinned.checked.prog ++ Tryz.f5.resultTypes.toList).any (Tryz.pinned.checked.prog.wideKeysFrom ·))) = true := by kernel_rfl
end Go.Proofs.YtcbidldebfibkaaGreatDoor
