import Derived.Test.YtcbidldebfibkaaGreatDoorJ1
set_option linter.unusedVariables false
set_option linter.unusedSimpArgs false
set_option linter.unusedSectionVars false
set_option linter.unnecessarySimpa false
namespace Go.Proofs.YtcbidldebfibkaaGreatDoor
open Go
set_option maxRecDepth 100000
theorem ok10 : ((Rows.storeOneFormUptoRow.unfollowed == Tryz.pinned.checked.prog.unfollowed 6)) = true := by kernel_rfl
theorem ok11 : ((Rows.storeOneFormUptoRow.recurses == Tryz.pinned.checked.prog.recurses 6)) = true := by kernel_rfl
theorem ok12 : ((Rows.storeOneFormUptoRow.named == Tryz.pinned.checked.prog.varsNamed 6)) = true := by kernel_rfl
theorem ok13 : ((Rows.storeOneFormUptoRow.maps == (Tryz.f6.params.toList ++ (Rows.OpenSpec.upto Rows.storeOneFormSpec).bare.plain.varTypes Tryz.pinned.checked.prog).any (Tryz.pinned.checked.prog.mapsRec ·))) = true := by kernel_rfl
theorem ok14 : ((Rows.storeOneFormUptoRow.ifaces == (Tryz.f6.params.toList ++ (Rows.OpenSpec.upto Rows.storeOneFormSpec).bare.plain.varTypes Tryz.pinned.checked.prog).any (Tryz.pinned.checked.prog.ifacesRec ·))) = true := by kernel_rfl
theorem ok15 : ((Rows.storeOneFormUptoRow.mapsOut == Tryz.pinned.checked.prog.mapsAmong Tryz.f6.resultTypes.toList)) = true := by kernel_rfl
theorem ok16 : ((Rows.storeOneFormUptoRow.loops == (Tryz.f6.params.toList ++ (Rows.OpenSpec.upto Rows.storeOneFormSpec).bare.plain.varTypes Tryz.pinned.checked.prog).any (Tryz.pinned.checked.prog.loopsFrom ·))) = true := by kernel_rfl
theorem ok17 : ((Rows.storeOneFormUptoRow.wideKeys == (Tryz.f6.params.toList ++ (Rows.OpenSpec.upto Rows.storeOneFormSpec).bare.plain.varTypes Tryz.pinned.checked.prog ++ Tryz.f6.resultTypes.toList).any (Tryz.pinned.checked.prog.wideKeysFrom ·))) = true := by kernel_rfl
end Go.Proofs.YtcbidldebfibkaaGreatDoor
