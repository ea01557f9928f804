import Derived.Test.YtcokhbglfaakjaaGreatDoorY1
set_option linter.all false
set_option maxHeartbeats 0
namespace Go.Proofs.YtcokhbglfaakjaaGreatDoor
open Go.Sx
open Go
theorem JC:varsNamedLaterB Tryz.prog (varsId Tryz.prog) qp=true:=aa
end Go.Proofs.YtcokhbglfaakjaaGreatDoor
