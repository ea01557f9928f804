import Derived.Test.YtcbidldebfibkaaGreatDoorJ1
set_option linter.unusedVariables false
set_option linter.unusedSimpArgs false
set_option linter.unusedSectionVars false
set_option linter.unnecessarySimpa false
namespace Go.Proofs.YtcbidldebfibkaaGreatDoor
open Go
set_option maxRecDepth 100000
theorem ok0 : (Rows.storeOneFormUptoRow.wf (OpenSpec.ofChange (Rows.OpenSpec.upto Rows.storeOneFormSpec).bare)) = true := by kernel_rfl
theorem ok3 : (Tryz.f6.params.all (Tryz.pinned.checked.prog.readableRec ·)) = true := by kernel_rfl
theorem ok4 : (namedTie Tryz.pinned.checked.prog Rows.storeOneFormUptoRow.named (Rows.OpenSpec.upto Rows.storeOneFormSpec).bare.vars) = true := by kernel_rfl
theorem ok5 : ((Rows.storeOneFormUptoRow.stops == [])) = true := by kernel_rfl
theorem ok6 : ((Tryz.pinned.checked.prog.stops == [])) = true := by kernel_rfl
theorem ok7 : ((Rows.storeOneFormUptoRow.knobs == [])) = true := by kernel_rfl
theorem ok8 : ((Tryz.pinned.checked.prog.stopKnobs == [])) = true := by kernel_rfl
theorem ok9 : ((Rows.storeOneFormUptoRow.inPlace == Tryz.pinned.checked.prog.inPlace 6)) = true := by kernel_rfl
end Go.Proofs.YtcbidldebfibkaaGreatDoor
