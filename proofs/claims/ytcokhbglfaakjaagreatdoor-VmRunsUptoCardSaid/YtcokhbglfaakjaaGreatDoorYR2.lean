import Derived.Test.YtcokhbglfaakjaaGreatDoorY1
set_option linter.all false
set_option maxHeartbeats 0
namespace Go.Proofs.YtcokhbglfaakjaaGreatDoor
open Go.Sx
open Go
set_option maxRecDepth 100000
theorem Z5:(laidOutB Tryz.pinned.checked.prog)=true:=aa
theorem Z4:(mapsRowed Tryz.pinned.checked.prog)=true:=aa
theorem VJ:((Rows.OpenSpec.upto Rows.vmRunsSpec).bare.vars.all (Tryz.pinned.checked.prog.varReadable ·))=true:=aa
theorem VH:(Tryz.f3.resultTypes.all (λt=>Tryz.pinned.checked.prog.readableRec t&&decide (t<Tryz.pinned.checked.prog.types.size)))=true:=aa
theorem VG:((Rows.vmRunsUptoRow.ifacesOut==Tryz.f3.resultTypes.toList.any (Tryz.pinned.checked.prog.ifacesRec ·)))=true:=aa
theorem VF:((Rows.vmRunsUptoRow.loopsOut==Tryz.f3.resultTypes.toList.any (Tryz.pinned.checked.prog.loopsFrom ·)))=true:=aa
theorem VE:((Rows.vmRunsUptoRow.plainKeys==Tryz.pinned.checked.prog.plainKeys))=true:=aa
theorem VD:(Rows.vmRunsUptoRow.shortTexts.isNone)=true:=aa
theorem VC:(Tryz.pinned.checked.prog.stopsHeard)=true:=aa
theorem VB:(Tryz.pinned.checked.prog.mayEnter)=true:=aa
theorem VA:((Rows.vmRunsUptoRow.lifted==Tryz.pinned.checked.prog.liftsFinal))=true:=aa
theorem UZ:((Tryz.pinned.checked.prog.make==some Rows.vmRunsUptoRow.make))=true:=aa
theorem UY:((Rows.vmRunsUptoRow.kinds==(if Rows.vmRunsUptoRow.domain.isEmpty then []else Tryz.f3.params.toList.map λt=>match Tryz.pinned.checked.prog.underlying t with|some (.int k)=>some k|_=>none)))=true:=aa
theorem UX:((Rows.vmRunsUptoRow.pinned==Rows.vmRunsUptoRow.pinnedBy))=true:=aa
theorem UW:((Rows.vmRunsUptoRow.veiled==(Tryz.f3.params.toList++(Rows.OpenSpec.upto Rows.vmRunsSpec).bare.plain.varTypes Tryz.pinned.checked.prog++Tryz.f3.resultTypes.toList).any (Tryz.pinned.checked.prog.veiledRec ·)))=true:=aa
theorem UU:(Rows.vmRunsUptoRow.veiledFits Tryz.pinned.checked.prog Tryz.f3.params.toList (Tryz.f3.params.toList++(Rows.OpenSpec.upto Rows.vmRunsSpec).bare.plain.varTypes Tryz.pinned.checked.prog++Tryz.f3.resultTypes.toList))=true:=aa
end Go.Proofs.YtcokhbglfaakjaaGreatDoor
