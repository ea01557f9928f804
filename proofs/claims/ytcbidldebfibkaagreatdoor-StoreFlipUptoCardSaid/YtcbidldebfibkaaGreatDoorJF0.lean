import Derived.Test.YtcbidldebfibkaaGreatDoorJ1
set_option linter.unusedVariables false
set_option linter.unusedSimpArgs false
set_option linter.unusedSectionVars false
set_option linter.unnecessarySimpa false
namespace Go.Proofs.YtcbidldebfibkaaGreatDoor
open Go
set_option maxRecDepth 100000
theorem fk0 : (Rows.storeFlipUptoRow.wf (OpenSpec.ofChange (Rows.OpenSpec.upto Rows.storeFlipSpec).bare)) = true := by kernel_rfl
theorem fk3 : (Tryz.f5.params.all (Tryz.pinned.checked.prog.readableRec ·)) = true := by kernel_rfl
theorem fk4 : (namedTie Tryz.pinned.checked.prog Rows.storeFlipUptoRow.named (Rows.OpenSpec.upto Rows.storeFlipSpec).bare.vars) = true := by kernel_rfl
theorem fk5 : ((Rows.storeFlipUptoRow.stops == [])) = true := by kernel_rfl
theorem fk6 : ((Tryz.pinned.checked.prog.stops == [])) = true := by kernel_rfl
theorem fk7 : ((Rows.storeFlipUptoRow.knobs == [])) = true := by kernel_rfl
theorem fk8 : ((Tryz.pinned.checked.prog.stopKnobs == [])) = true := by kernel_rfl
theorem fk9 : ((Rows.storeFlipUptoRow.inPlace == Tryz.pinned.checked.prog.inPlace 5)) = true := by kernel_rfl
end Go.Proofs.YtcbidldebfibkaaGreatDoor
