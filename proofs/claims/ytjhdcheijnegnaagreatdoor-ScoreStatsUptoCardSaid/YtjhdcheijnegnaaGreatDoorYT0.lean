import Derived.Test.YtjhdcheijnegnaaGreatDoorY1
set_option linter.all false
set_option maxHeartbeats 0
namespace Go.Proofs.YtjhdcheijnegnaaGreatDoor
open Go.Sx
open Go
set_option maxRecDepth 100000
theorem tk0:(Rows.scoreStatsUptoRow.wf (OpenSpec.ofChange (Rows.OpenSpec.upto Rows.scoreStatsSpec).bare))=true:=aa
theorem tk3:(Tryz.f3.params.all (Tryz.pinned.checked.prog.readableRec ·))=true:=aa
theorem tk4:(namedTie Tryz.pinned.checked.prog Rows.scoreStatsUptoRow.named (Rows.OpenSpec.upto Rows.scoreStatsSpec).bare.vars)=true:=aa
theorem tk5:((Rows.scoreStatsUptoRow.stops== []))=true:=aa
theorem tk6:((Tryz.pinned.checked.prog.stops== []))=true:=aa
theorem tk7:((Rows.scoreStatsUptoRow.knobs== []))=true:=aa
theorem tk8:((Tryz.pinned.checked.prog.stopKnobs== []))=true:=aa
theorem tk9:((Rows.scoreStatsUptoRow.inPlace==Tryz.pinned.checked.prog.inPlace 3))=true:=aa
end Go.Proofs.YtjhdcheijnegnaaGreatDoor
