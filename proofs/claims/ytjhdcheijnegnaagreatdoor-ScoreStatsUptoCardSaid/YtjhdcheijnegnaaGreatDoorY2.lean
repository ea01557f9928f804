import Derived.Test.YtjhdcheijnegnaaGreatDoorY1
set_option linter.all false
set_option maxHeartbeats 0
namespace Go.Proofs.YtjhdcheijnegnaaGreatDoor
open Go.Sx
open Go
theorem DT:varsNamedLaterB Tryz.prog (varsId Tryz.prog) lO=true:=aa
end Go.Proofs.YtjhdcheijnegnaaGreatDoor
