import Derived.Test.YtcbidldebfibkaaGreatDoorR1
set_option linter.unusedVariables false
set_option linter.unusedSimpArgs false
set_option linter.unusedSectionVars false
set_option linter.unnecessarySimpa false
set_option maxHeartbeats 0
namespace Go.Proofs.YtcbidldebfibkaaGreatDoor
open Go.Sx
open Go
theorem G2 (os:Os) (args:Array Value):((World.doorLaid Tryz.prog 2000 os).forCall (fun _ _=> 0) ⟨#[],args, []⟩).variablesRefB Tryz.prog=true:=aa
end Go.Proofs.YtcbidldebfibkaaGreatDoor
