import Derived.Test.YtniphaoadhojlaaGreatDoorY1
set_option linter.all false
namespace Go.Proofs.YtniphaoadhojlaaGreatDoor
open Go
set_option maxRecDepth 100000
theorem ssk0 : (Rows.scoreSumsRow.wf (OpenSpec.ofChange (OpenSpec.ofChange Rows.scoreSumsSpec).bare)) = true := by kernel_rfl
theorem ssk3 : (Tryz.f3.params.all (Tryz.pinned.checked.prog.readableRec ·)) = true := by kernel_rfl
theorem ssk4 : (namedTie Tryz.pinned.checked.prog Rows.scoreSumsRow.named (OpenSpec.ofChange Rows.scoreSumsSpec).bare.vars) = true := by kernel_rfl
theorem ssk5 : ((Rows.scoreSumsRow.stops == [])) = true := by kernel_rfl
theorem ssk6 : ((Tryz.pinned.checked.prog.stops == [])) = true := by kernel_rfl
theorem ssk7 : ((Rows.scoreSumsRow.knobs == [])) = true := by kernel_rfl
theorem ssk8 : ((Tryz.pinned.checked.prog.stopKnobs == [])) = true := by kernel_rfl
theorem ssk9 : ((Rows.scoreSumsRow.inPlace == Tryz.pinned.checked.prog.inPlace 3)) = true := by kernel_rfl
end Go.Proofs.YtniphaoadhojlaaGreatDoor
