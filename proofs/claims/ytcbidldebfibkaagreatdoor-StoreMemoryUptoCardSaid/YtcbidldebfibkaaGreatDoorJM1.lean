import Derived.Test.YtcbidldebfibkaaGreatDoorJ1
set_option linter.unusedVariables false
set_option linter.unusedSimpArgs false
set_option linter.unusedSectionVars false
set_option linter.unnecessarySimpa false
namespace Go.Proofs.YtcbidldebfibkaaGreatDoor
open Go
set_option maxRecDepth 100000
theorem mq10 : ((Rows.storeMemoryUptoRow.unfollowed == Tryz.pinned.checked.prog.unfollowed 4)) = true := by kernel_rfl
theorem mq11 : ((Rows.storeMemoryUptoRow.recurses == Tryz.pinned.checked.prog.recurses 4)) = true := by kernel_rfl
theorem mq12 : ((Rows.storeMemoryUptoRow.named == Tryz.pinned.checked.prog.varsNamed 4)) = true := by kernel_rfl
theorem mq13 : ((Rows.storeMemoryUptoRow.maps == (Tryz.f4.params.toList ++ (Rows.OpenSpec.upto Rows.storeMemorySpec).bare.plain.varTypes Tryz.pinned.checked.prog).any (Tryz.pinned.checked.prog.mapsRec ·))) = true := by kernel_rfl
theorem mq14 : ((Rows.storeMemoryUptoRow.ifaces == (Tryz.f4.params.toList ++ (Rows.OpenSpec.upto Rows.storeMemorySpec).bare.plain.varTypes Tryz.pinned.checked.prog).any (Tryz.pinned.checked.prog.ifacesRec ·))) = true := by kernel_rfl
theorem mq15 : ((Rows.storeMemoryUptoRow.mapsOut == Tryz.pinned.checked.prog.mapsAmong Tryz.f4.resultTypes.toList)) = true := by kernel_rfl
theorem mq16 : ((Rows.storeMemoryUptoRow.loops == (Tryz.f4.params.toList ++ (Rows.OpenSpec.upto Rows.storeMemorySpec).bare.plain.varTypes Tryz.pinned.checked.prog).any (Tryz.pinned.checked.prog.loopsFrom ·))) = true := by kernel_rfl
theorem mq17 : ((Rows.storeMemoryUptoRow.wideKeys == (Tryz.f4.params.toList ++ (Rows.OpenSpec.upto Rows.storeMemorySpec).bare.plain.varTypes Tryz.pinned.checked.prog ++ Tryz.f4.resultTypes.toList).any (Tryz.pinned.checked.prog.wideKeysFrom ·))) = true := by kernel_rfl
end Go.Proofs.YtcbidldebfibkaaGreatDoor
