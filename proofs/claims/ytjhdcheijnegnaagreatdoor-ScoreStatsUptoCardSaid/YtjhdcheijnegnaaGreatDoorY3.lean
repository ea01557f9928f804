import Derived.Test.YtjhdcheijnegnaaGreatDoorY1
set_option linter.all false
set_option maxHeartbeats 0
namespace Go.Proofs.YtjhdcheijnegnaaGreatDoor
open Go.Sx
open Go
theorem DS:∀os tape,doorLeaves Tryz.prog 2000 8 512 lO os tape=some (lO.filter fun x=> x.2.handleName?.isNone,(funcsListed lO).map (·.2.funcsOut)):=fun _ _=> aa
end Go.Proofs.YtjhdcheijnegnaaGreatDoor
