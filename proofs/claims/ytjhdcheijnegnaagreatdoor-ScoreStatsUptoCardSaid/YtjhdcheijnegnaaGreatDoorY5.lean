import Derived.Test.YtjhdcheijnegnaaGreatDoorY1
set_option linter.all false
set_option maxHeartbeats 0
namespace Go.Proofs.YtjhdcheijnegnaaGreatDoor
open Go.Sx
open Go
theorem Gy (os:Os) (args:Array Value):(((World.doorLaid Tryz.prog 2000 os).forCall (fun _ _=> 0) ⟨#[],args, []⟩).heap.toList.drop Tryz.prog.globals.size).take ((begin Tryz.prog (fun _ _=> 0) default).world.heap.size - Tryz.prog.globals.size)=(begin Tryz.prog (fun _ _=> 0) default).world.heap.toList.drop Tryz.prog.globals.size:=aa
end Go.Proofs.YtjhdcheijnegnaaGreatDoor
