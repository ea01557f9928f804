import Derived.Test.YtcbidldebfibkaaGreatDoorJ1
set_option linter.unusedVariables false
set_option linter.unusedSimpArgs false
set_option linter.unusedSectionVars false
set_option linter.unnecessarySimpa false
namespace Go.Proofs.YtcbidldebfibkaaGreatDoor
open Go
theorem tieNamed : varsNamedLaterB Tryz.prog (varsId Tryz.prog) laidL = true := by kernel_rfl
end Go.Proofs.YtcbidldebfibkaaGreatDoor
