import Derived.Test.YtcokhbglfaakjaaGreatDoorY1
set_option linter.all false
set_option maxHeartbeats 0
namespace Go.Proofs.YtcokhbglfaakjaaGreatDoor
open Go.Sx
open Go
theorem JB:∀os tape,doorLeaves Tryz.prog 2000 8 512 qp os tape=some (qp.filter fun x=> x.2.handleName?.isNone,(funcsListed qp).map (·.2.funcsOut)):=fun _ _=> aa
end Go.Proofs.YtcokhbglfaakjaaGreatDoor
