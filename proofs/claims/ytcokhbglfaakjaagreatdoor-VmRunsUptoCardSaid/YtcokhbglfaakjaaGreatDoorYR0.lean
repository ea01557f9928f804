import Derived.Test.YtcokhbglfaakjaaGreatDoorY1
set_option linter.all false
set_option maxHeartbeats 0
namespace Go.Proofs.YtcokhbglfaakjaaGreatDoor
open Go.Sx
open Go
set_option maxRecDepth 100000
theorem Z6:(Rows.vmRunsUptoRow.wf (OpenSpec.ofChange (Rows.OpenSpec.upto Rows.vmRunsSpec).bare))=true:=aa
theorem Z3:(Tryz.f3.params.all (Tryz.pinned.checked.prog.readableRec ·))=true:=aa
theorem Z2:(namedTie Tryz.pinned.checked.prog Rows.vmRunsUptoRow.named (Rows.OpenSpec.upto Rows.vmRunsSpec).bare.vars)=true:=aa
theorem Z1:((Rows.vmRunsUptoRow.stops== []))=true:=aa
theorem Z0:((Tryz.pinned.checked.prog.stops== []))=true:=aa
theorem YZ:((Rows.vmRunsUptoRow.knobs== []))=true:=aa
theorem YY:((Tryz.pinned.checked.prog.stopKnobs== []))=true:=aa
theorem YX:((Rows.vmRunsUptoRow.inPlace==Tryz.pinned.checked.prog.inPlace 3))=true:=aa
end Go.Proofs.YtcokhbglfaakjaaGreatDoor
