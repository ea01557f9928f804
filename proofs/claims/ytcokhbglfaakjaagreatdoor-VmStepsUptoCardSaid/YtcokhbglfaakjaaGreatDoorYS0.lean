import Derived.Test.YtcokhbglfaakjaaGreatDoorY1
set_option linter.all false
set_option maxHeartbeats 0
namespace Go.Proofs.YtcokhbglfaakjaaGreatDoor
open Go.Sx
open Go
set_option maxRecDepth 100000
theorem vsk0:(Rows.vmStepsUptoRow.wf (OpenSpec.ofChange (Rows.OpenSpec.upto Rows.vmStepsSpec).bare))=true:=aa
theorem vsk3:(Tryz.f4.params.all (Tryz.pinned.checked.prog.readableRec ·))=true:=aa
theorem vsk4:(namedTie Tryz.pinned.checked.prog Rows.vmStepsUptoRow.named (Rows.OpenSpec.upto Rows.vmStepsSpec).bare.vars)=true:=aa
theorem vsk5:((Rows.vmStepsUptoRow.stops== []))=true:=aa
theorem vsk6:((Tryz.pinned.checked.prog.stops== []))=true:=aa
theorem vsk7:((Rows.vmStepsUptoRow.knobs== []))=true:=aa
theorem vsk8:((Tryz.pinned.checked.prog.stopKnobs== []))=true:=aa
theorem vsk9:((Rows.vmStepsUptoRow.inPlace==Tryz.pinned.checked.prog.inPlace 4))=true:=aa
end Go.Proofs.YtcokhbglfaakjaaGreatDoor
