import Derived.Test.YtcbidldebfibkaaGreatDoorJ1
set_option linter.unusedVariables false
set_option linter.unusedSimpArgs false
set_option linter.unusedSectionVars false
set_option linter.unnecessarySimpa false
namespace Go.Proofs.YtcbidldebfibkaaGreatDoor
open Go
set_option maxRecDepth 100000
theorem pk10 : ((Rows.storePacksUptoRow.unfollowed == Tryz.pinned.checked.prog.unfollowed 3)) = true := by kernel_rfl
theorem pk11 : ((Rows.storePacksUptoRow.recurses == Tryz.pinned.checked.prog.recurses 3)) = true := by kernel_rfl
theorem pk12 : ((Rows.storePacksUptoRow.named == Tryz.pinned.checked.prog.varsNamed 3)) = true := by kernel_rfl
theorem pk13 : ((Rows.storePacksUptoRow.maps == (Tryz.f3.params.toList ++ (Rows.OpenSpec.upto Rows.storePacksSpec).bare.plain.varTypes Tryz.pinned.checked.prog).any (Tryz.pinned.checked.prog.mapsRec ·))) = true := by kernel_rfl
theorem pk14 : ((Rows.storePacksUptoRow.ifaces == (Tryz.f3.params.toList ++ (Rows.OpenSpec.upto Rows.storePacksSpec).bare.plain.varTypes Tryz.pinned.checked.prog).any (Tryz.pinned.checked.prog.ifacesRec ·))) = true := by kernel_rfl
theorem pk15 : ((Rows.storePacksUptoRow.mapsOut == Tryz.pinned.checked.prog.mapsAmong Tryz.f3.resultTypes.toList)) = true := by kernel_rfl
theorem pk16 : ((Rows.storePacksUptoRow.loops == (Tryz.f3.params.toList ++ (Rows.OpenSpec.upto Rows.storePacksSpec).bare.plain.varTypes Tryz.pinned.checked.prog).any (Tryz.pinned.checked.prog.loopsFrom ·))) = true := by kernel_rfl
theorem pk17 : ((Rows.storePacksUptoRow.wideKeys == (Tryz.f3.params.toList ++ (Rows.OpenSpec.upto Rows.storePacksSpec).bare.plain.varTypes Tryz.pinned.checked.prog ++ Tryz.f3.resultTypes.toList).any (Tryz.pinned.checked.prog.wideKeysFrom ·))) = true := by kernel_rfl
end Go.Proofs.YtcbidldebfibkaaGreatDoor
