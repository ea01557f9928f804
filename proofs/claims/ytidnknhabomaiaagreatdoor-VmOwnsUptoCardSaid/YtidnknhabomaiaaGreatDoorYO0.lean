import Derived.Test.YtidnknhabomaiaaGreatDoorY1
set_option linter.unusedVariables false
set_option linter.unusedSimpArgs false
set_option linter.unusedSectionVars false
set_option linter.unnecessarySimpa false
set_option maxHeartbeats 0
namespace Go.Proofs.YtidnknhabomaiaaGreatDoor
open Go.Sx
open Go
set_option maxRecDepth 100000
theorem wk0:(Rows.vmOwnsUptoRow.wf (OpenSpec.ofChange (Rows.OpenSpec.upto Rows.vmOwnsSpec).bare))=true:=a8
theorem wk3:(Tryz.f4.params.all (Tryz.pinned.checked.prog.readableRec ·))=true:=a8
theorem wk4:(namedTie Tryz.pinned.checked.prog Rows.vmOwnsUptoRow.named (Rows.OpenSpec.upto Rows.vmOwnsSpec).bare.vars)=true:=a8
theorem wk5:((Rows.vmOwnsUptoRow.stops== []))=true:=a8
theorem wk6:((Tryz.pinned.checked.prog.stops== []))=true:=a8
theorem wk7:((Rows.vmOwnsUptoRow.knobs== []))=true:=a8
theorem wk8:((Tryz.pinned.checked.prog.stopKnobs== []))=true:=a8
theorem wk9:((Rows.vmOwnsUptoRow.inPlace==Tryz.pinned.checked.prog.inPlace 4))=true:=a8
end Go.Proofs.YtidnknhabomaiaaGreatDoor
