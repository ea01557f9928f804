import Derived.Test.YtcbidldebfibkaaGreatDoorR1
set_option linter.unusedVariables false
set_option linter.unusedSimpArgs false
set_option linter.unusedSectionVars false
set_option linter.unnecessarySimpa false
set_option maxHeartbeats 0
namespace Go.Proofs.YtcbidldebfibkaaGreatDoor
open Go.Sx
open Go
theorem Dq:varsNamedLaterB Tryz.prog (varsId Tryz.prog) nS=true:=aa
end Go.Proofs.YtcbidldebfibkaaGreatDoor
