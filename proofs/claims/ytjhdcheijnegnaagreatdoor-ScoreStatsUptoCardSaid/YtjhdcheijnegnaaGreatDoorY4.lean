import Derived.Test.YtjhdcheijnegnaaGreatDoorY1
set_option linter.all false
set_option maxHeartbeats 0
namespace Go.Proofs.YtjhdcheijnegnaaGreatDoor
open Go.Sx
open Go
theorem Gx (os:Os) (args:Array Value):((World.doorLaid Tryz.prog 2000 os).forCall (fun _ _=> 0) ⟨#[],args, []⟩).variablesRefB Tryz.prog=true:=aa
end Go.Proofs.YtjhdcheijnegnaaGreatDoor
