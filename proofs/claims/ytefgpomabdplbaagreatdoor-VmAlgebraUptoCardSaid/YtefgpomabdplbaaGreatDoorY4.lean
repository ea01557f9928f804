import Derived.Test.YtefgpomabdplbaaGreatDoorY1
set_option linter.unusedVariables false
set_option linter.unusedSimpArgs false
set_option linter.unusedSectionVars false
set_option linter.unnecessarySimpa false
set_option maxHeartbeats 0
namespace Go.Proofs.YtefgpomabdplbaaGreatDoor
open Go.Sx
open Go
theorem Hn (os:Os) (args:Array Value):((World.doorLaid Tryz.prog 521 os).forCall (fun _ _=> 0) ⟨#[],args, []⟩).variablesRefB Tryz.prog=true:=a8
end Go.Proofs.YtefgpomabdplbaaGreatDoor
