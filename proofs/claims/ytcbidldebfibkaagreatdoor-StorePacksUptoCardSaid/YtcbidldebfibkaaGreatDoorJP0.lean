import Derived.Test.YtcbidldebfibkaaGreatDoorJ1
set_option linter.unusedVariables false
set_option linter.unusedSimpArgs false
set_option linter.unusedSectionVars false
set_option linter.unnecessarySimpa false
namespace Go.Proofs.YtcbidldebfibkaaGreatDoor
open Go
set_option maxRecDepth 100000
theorem pk0 : (Rows.storePacksUptoRow.wf (OpenSpec.ofChange (Rows.OpenSpec.upto Rows.storePacksSpec).bare)) = true := by kernel_rfl
theorem pk1 : (laidOutB Tryz.pinned.checked.prog) = true := by kernel_rfl
theorem pk2 : (mapsRowed Tryz.pinned.checked.prog) = true := by kernel_rfl
theorem pk3 : (Tryz.f3.params.all (Tryz.pinned.checked.prog.readableRec ·)) = true := by kernel_rfl
theorem pk4 : (namedTie Tryz.pinned.checked.prog Rows.storePacksUptoRow.named (Rows.OpenSpec.upto Rows.storePacksSpec).bare.vars) = true := by kernel_rfl
theorem pk5 : ((Rows.storePacksUptoRow.stops == [])) = true := by kernel_rfl
theorem pk6 : ((Tryz.pinned.checked.prog.stops == [])) = true := by kernel_rfl
theorem pk7 : ((Rows.storePacksUptoRow.knobs == [])) = true := by kernel_rfl
theorem pk8 : ((Tryz.pinned.checked.prog.stopKnobs == [])) = true := by kernel_rfl
theorem pk9 : ((Rows.storePacksUptoRow.inPlace == Tryz.pinned.checked.prog.inPlace 3)) = true := by kernel_rfl
end Go.Proofs.YtcbidldebfibkaaGreatDoor
