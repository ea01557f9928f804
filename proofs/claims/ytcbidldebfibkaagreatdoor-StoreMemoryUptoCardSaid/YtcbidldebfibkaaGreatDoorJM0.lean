import Derived.Test.YtcbidldebfibkaaGreatDoorJ1
set_option linter.unusedVariables false
set_option linter.unusedSimpArgs false
set_option linter.unusedSectionVars false
set_option linter.unnecessarySimpa false
namespace Go.Proofs.YtcbidldebfibkaaGreatDoor
open Go
set_option maxRecDepth 100000
theorem mq0 : (Rows.storeMemoryUptoRow.wf (OpenSpec.ofChange (Rows.OpenSpec.upto Rows.storeMemorySpec).bare)) = true := by kernel_rfl
theorem mq3 : (Tryz.f4.params.all (Tryz.pinned.checked.prog.readableRec ·)) = true := by kernel_rfl
theorem mq4 : (namedTie Tryz.pinned.checked.prog Rows.storeMemoryUptoRow.named (Rows.OpenSpec.upto Rows.storeMemorySpec).bare.vars) = true := by kernel_rfl
theorem mq5 : ((Rows.storeMemoryUptoRow.stops == [])) = true := by kernel_rfl
theorem mq6 : ((Tryz.pinned.checked.prog.stops == [])) = true := by kernel_rfl
theorem mq7 : ((Rows.storeMemoryUptoRow.knobs == [])) = true := by kernel_rfl
theorem mq8 : ((Tryz.pinned.checked.prog.stopKnobs == [])) = true := by kernel_rfl
theorem mq9 : ((Rows.storeMemoryUptoRow.inPlace == Tryz.pinned.checked.prog.inPlace 4)) = true := by kernel_rfl
end Go.Proofs.YtcbidldebfibkaaGreatDoor
