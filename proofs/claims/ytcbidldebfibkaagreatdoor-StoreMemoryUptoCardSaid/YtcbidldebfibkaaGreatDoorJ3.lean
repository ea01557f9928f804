import Derived.Test.YtcbidldebfibkaaGreatDoorJ1
set_option linter.unusedVariables false
set_option linter.unusedSimpArgs false
set_option linter.unusedSectionVars false
set_option linter.unnecessarySimpa false
namespace Go.Proofs.YtcbidldebfibkaaGreatDoor
open Go
theorem tieRun : ∀ os tape, doorLeaves Tryz.prog 2000 8 512 laidL os tape = some (laidL.filter fun x => x.2.handleName?.isNone, (funcsListed laidL).map (·.2.funcsOut)) := fun _ _ => by kernel_rfl
end Go.Proofs.YtcbidldebfibkaaGreatDoor
