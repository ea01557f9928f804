import Derived.Test.YtefgpomabdplbaaGreatDoorY1
set_option linter.unusedVariables false
set_option linter.unusedSimpArgs false
set_option linter.unusedSectionVars false
set_option linter.unnecessarySimpa false
set_option maxHeartbeats 0
namespace Go.Proofs.YtefgpomabdplbaaGreatDoor
open Go.Sx
open Go
set_option maxRecDepth 100000
theorem zk0:(Rows.vmAlgebraUptoRow.wf (OpenSpec.ofChange (Rows.OpenSpec.upto Rows.vmAlgebraSpec).bare))=true:=a8
theorem zk3:(Tryz.f4.params.all (Tryz.pinned.checked.prog.readableRec ·))=true:=a8
theorem zk4:(namedTie Tryz.pinned.checked.prog Rows.vmAlgebraUptoRow.named (Rows.OpenSpec.upto Rows.vmAlgebraSpec).bare.vars)=true:=a8
theorem zk5:((Rows.vmAlgebraUptoRow.stops== []))=true:=a8
theorem zk6:((Tryz.pinned.checked.prog.stops== []))=true:=a8
theorem zk7:((Rows.vmAlgebraUptoRow.knobs== []))=true:=a8
theorem zk8:((Tryz.pinned.checked.prog.stopKnobs== []))=true:=a8
theorem zk9:((Rows.vmAlgebraUptoRow.inPlace==Tryz.pinned.checked.prog.inPlace 4))=true:=a8
end Go.Proofs.YtefgpomabdplbaaGreatDoor
