import Derived.Test.YtefgpomabdplbaaGreatDoorY1
set_option linter.unusedVariables false
set_option linter.unusedSimpArgs false
set_option linter.unusedSectionVars false
set_option linter.unnecessarySimpa false
set_option maxHeartbeats 0
namespace Go.Proofs.YtefgpomabdplbaaGreatDoor
open Go.Sx
open Go
set_option maxRecDepth 100000
theorem xk0:(Rows.vmEndsUptoRow.wf (OpenSpec.ofChange (Rows.OpenSpec.upto Rows.vmEndsSpec).bare))=true:=a8
theorem xk3:(Tryz.f3.params.all (Tryz.pinned.checked.prog.readableRec ·))=true:=a8
theorem xk4:(namedTie Tryz.pinned.checked.prog Rows.vmEndsUptoRow.named (Rows.OpenSpec.upto Rows.vmEndsSpec).bare.vars)=true:=a8
theorem xk5:((Rows.vmEndsUptoRow.stops== []))=true:=a8
theorem xk6:((Tryz.pinned.checked.prog.stops== []))=true:=a8
theorem xk7:((Rows.vmEndsUptoRow.knobs== []))=true:=a8
theorem xk8:((Tryz.pinned.checked.prog.stopKnobs== []))=true:=a8
theorem xk9:((Rows.vmEndsUptoRow.inPlace==Tryz.pinned.checked.prog.inPlace 3))=true:=a8
end Go.Proofs.YtefgpomabdplbaaGreatDoor
