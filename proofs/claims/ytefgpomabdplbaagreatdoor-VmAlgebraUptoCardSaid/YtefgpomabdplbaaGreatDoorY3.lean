import Derived.Test.YtefgpomabdplbaaGreatDoorY1
set_option linter.unusedVariables false
set_option linter.unusedSimpArgs false
set_option linter.unusedSectionVars false
set_option linter.unnecessarySimpa false
set_option maxHeartbeats 0
namespace Go.Proofs.YtefgpomabdplbaaGreatDoor
open Go.Sx
open Go
theorem EF:∀os tape,doorLeaves Tryz.prog 521 8 257 nh os tape=some (nh.filter fun x=> x.2.handleName?.isNone,(funcsListed nh).map (·.2.funcsOut)):=fun _ _=> a8
end Go.Proofs.YtefgpomabdplbaaGreatDoor
