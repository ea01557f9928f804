import Derived.Test.YtjhdcheijnegnaaGreatDoorY1
set_option linter.all false
set_option maxHeartbeats 0
namespace Go.Proofs.YtjhdcheijnegnaaGreatDoor
open Go.Sx
open Go
set_option maxRecDepth 100000
theorem tk1:(laidOutB Tryz.pinned.checked.prog)=true:=aa
theorem tk2:(mapsRowed Tryz.pinned.checked.prog)=true:=aa
theorem Pe:((Rows.OpenSpec.upto Rows.scoreStatsSpec).bare.vars.all (Tryz.pinned.checked.prog.varReadable ·))=true:=aa
theorem Pd:(Tryz.f3.resultTypes.all (λt=>Tryz.pinned.checked.prog.readableRec t&&decide (t<Tryz.pinned.checked.prog.types.size)))=true:=aa
theorem Pc:((Rows.scoreStatsUptoRow.ifacesOut==Tryz.f3.resultTypes.toList.any (Tryz.pinned.checked.prog.ifacesRec ·)))=true:=aa
theorem Pb:((Rows.scoreStatsUptoRow.loopsOut==Tryz.f3.resultTypes.toList.any (Tryz.pinned.checked.prog.loopsFrom ·)))=true:=aa
theorem Pa:((Rows.scoreStatsUptoRow.plainKeys==Tryz.pinned.checked.prog.plainKeys))=true:=aa
theorem OZ:(Rows.scoreStatsUptoRow.shortTexts.isNone)=true:=aa
theorem OY:(Tryz.pinned.checked.prog.stopsHeard)=true:=aa
theorem OX:(Tryz.pinned.checked.prog.mayEnter)=true:=aa
theorem OW:((Rows.scoreStatsUptoRow.lifted==Tryz.pinned.checked.prog.liftsFinal))=true:=aa
theorem OV:((Tryz.pinned.checked.prog.make==some Rows.scoreStatsUptoRow.make))=true:=aa
theorem OU:((Rows.scoreStatsUptoRow.kinds==(if Rows.scoreStatsUptoRow.domain.isEmpty then []else Tryz.f3.params.toList.map λt=>match Tryz.pinned.checked.prog.underlying t with|some (.int k)=>some k|_=>none)))=true:=aa
theorem OT:((Rows.scoreStatsUptoRow.pinned==Rows.scoreStatsUptoRow.pinnedBy))=true:=aa
theorem OS:((Rows.scoreStatsUptoRow.veiled==(Tryz.f3.params.toList++(Rows.OpenSpec.upto Rows.scoreStatsSpec).bare.plain.varTypes Tryz.pinned.checked.prog++Tryz.f3.resultTypes.toList).any (Tryz.pinned.checked.prog.veiledRec ·)))=true:=aa
theorem OR:(Rows.scoreStatsUptoRow.veiledFits Tryz.pinned.checked.prog Tryz.f3.params.toList (Tryz.f3.params.toList++(Rows.OpenSpec.upto Rows.scoreStatsSpec).bare.plain.varTypes Tryz.pinned.checked.prog++Tryz.f3.resultTypes.toList))=true:=aa
end Go.Proofs.YtjhdcheijnegnaaGreatDoor
