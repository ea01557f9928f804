import Derived.Test.YtidnknhabomaiaaGreatDoorY1
set_option linter.unusedVariables false
set_option linter.unusedSimpArgs false
set_option linter.unusedSectionVars false
set_option linter.unnecessarySimpa false
set_option maxHeartbeats 0
namespace Go.Proofs.YtidnknhabomaiaaGreatDoor
open Go.Sx
open Go
set_option maxRecDepth 100000
theorem vk0:(Rows.vmFuelUptoRow.wf (OpenSpec.ofChange (Rows.OpenSpec.upto Rows.vmFuelSpec).bare))=true:=a8
theorem vk3:(Tryz.f3.params.all (Tryz.pinned.checked.prog.readableRec ·))=true:=a8
theorem vk4:(namedTie Tryz.pinned.checked.prog Rows.vmFuelUptoRow.named (Rows.OpenSpec.upto Rows.vmFuelSpec).bare.vars)=true:=a8
theorem vk5:((Rows.vmFuelUptoRow.stops== []))=true:=a8
theorem vk6:((Tryz.pinned.checked.prog.stops== []))=true:=a8
theorem vk7:((Rows.vmFuelUptoRow.knobs== []))=true:=a8
theorem vk8:((Tryz.pinned.checked.prog.stopKnobs== []))=true:=a8
theorem vk9:((Rows.vmFuelUptoRow.inPlace==Tryz.pinned.checked.prog.inPlace 3))=true:=a8
end Go.Proofs.YtidnknhabomaiaaGreatDoor
