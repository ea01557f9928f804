import Derived.Test.YtcokhbglfaakjaaGreatDoorY1
set_option linter.all false
set_option maxHeartbeats 0
namespace Go.Proofs.YtcokhbglfaakjaaGreatDoor
open Go.Sx
open Go
set_option maxRecDepth 100000
theorem vsk1:(laidOutB Tryz.pinned.checked.prog)=true:=aa
theorem vsk2:(mapsRowed Tryz.pinned.checked.prog)=true:=aa
theorem vsk18:((Rows.OpenSpec.upto Rows.vmStepsSpec).bare.vars.all (Tryz.pinned.checked.prog.varReadable ·))=true:=aa
theorem vsk19:(Tryz.f4.resultTypes.all (λt=>Tryz.pinned.checked.prog.readableRec t&&decide (t<Tryz.pinned.checked.prog.types.size)))=true:=aa
theorem vsk20:((Rows.vmStepsUptoRow.ifacesOut==Tryz.f4.resultTypes.toList.any (Tryz.pinned.checked.prog.ifacesRec ·)))=true:=aa
theorem vsk21:((Rows.vmStepsUptoRow.loopsOut==Tryz.f4.resultTypes.toList.any (Tryz.pinned.checked.prog.loopsFrom ·)))=true:=aa
theorem vsk22:((Rows.vmStepsUptoRow.plainKeys==Tryz.pinned.checked.prog.plainKeys))=true:=aa
theorem vsk23:(Rows.vmStepsUptoRow.shortTexts.isNone)=true:=aa
theorem vsk24:(Tryz.pinned.checked.prog.stopsHeard)=true:=aa
theorem vsk25:(Tryz.pinned.checked.prog.mayEnter)=true:=aa
theorem vsk26:((Rows.vmStepsUptoRow.lifted==Tryz.pinned.checked.prog.liftsFinal))=true:=aa
theorem vsk27:((Tryz.pinned.checked.prog.make==some Rows.vmStepsUptoRow.make))=true:=aa
theorem vsk28:((Rows.vmStepsUptoRow.kinds==(if Rows.vmStepsUptoRow.domain.isEmpty then []else Tryz.f4.params.toList.map λt=>match Tryz.pinned.checked.prog.underlying t with|some (.int k)=>some k|_=>none)))=true:=aa
theorem vsk29:((Rows.vmStepsUptoRow.pinned==Rows.vmStepsUptoRow.pinnedBy))=true:=aa
theorem vsk30:((Rows.vmStepsUptoRow.veiled==(Tryz.f4.params.toList++(Rows.OpenSpec.upto Rows.vmStepsSpec).bare.plain.varTypes Tryz.pinned.checked.prog++Tryz.f4.resultTypes.toList).any (Tryz.pinned.checked.prog.veiledRec ·)))=true:=aa
theorem vsk31:(Rows.vmStepsUptoRow.veiledFits Tryz.pinned.checked.prog Tryz.f4.params.toList (Tryz.f4.params.toList++(Rows.OpenSpec.upto Rows.vmStepsSpec).bare.plain.varTypes Tryz.pinned.checked.prog++Tryz.f4.resultTypes.toList))=true:=aa
end Go.Proofs.YtcokhbglfaakjaaGreatDoor
