import Derived.Test.YtcbidldebfibkaaGreatDoorR1
set_option linter.unusedVariables false
set_option linter.unusedSimpArgs false
set_option linter.unusedSectionVars false
set_option linter.unnecessarySimpa false
set_option maxHeartbeats 0
namespace Go.Proofs.YtcbidldebfibkaaGreatDoor
open Go.Sx
open Go
theorem Dp:∀os tape,doorLeaves Tryz.prog 2000 8 512 nS os tape=some (nS.filter fun x=> x.2.handleName?.isNone,(funcsListed nS).map (·.2.funcsOut)):=fun _ _=> aa
end Go.Proofs.YtcbidldebfibkaaGreatDoor
