import Derived.Test.YtcbidldebfibkaaGreatDoorR1
set_option linter.unusedVariables false
set_option linter.unusedSimpArgs false
set_option linter.unusedSectionVars false
set_option linter.unnecessarySimpa false
set_option maxHeartbeats 0
namespace Go.Proofs.YtcbidldebfibkaaGreatDoor
open Go.Sx
open Go
set_option maxRecDepth 100000
theorem rk0:(Rows.storeReadsUptoRow.wf (OpenSpec.ofChange (Rows.OpenSpec.upto Rows.storeReadsSpec).bare))=true:=aa
theorem rk3:(Tryz.f7.params.all (Tryz.pinned.checked.prog.readableRec ·))=true:=aa
theorem rk4:(namedTie Tryz.pinned.checked.prog Rows.storeReadsUptoRow.named (Rows.OpenSpec.upto Rows.storeReadsSpec).bare.vars)=true:=aa
theorem rk5:((Rows.storeReadsUptoRow.stops== []))=true:=aa
theorem rk6:((Tryz.pinned.checked.prog.stops== []))=true:=aa
theorem rk7:((Rows.storeReadsUptoRow.knobs== []))=true:=aa
theorem rk8:((Tryz.pinned.checked.prog.stopKnobs== []))=true:=aa
theorem rk9:((Rows.storeReadsUptoRow.inPlace==Tryz.pinned.checked.prog.inPlace 7))=true:=aa
end Go.Proofs.YtcbidldebfibkaaGreatDoor
