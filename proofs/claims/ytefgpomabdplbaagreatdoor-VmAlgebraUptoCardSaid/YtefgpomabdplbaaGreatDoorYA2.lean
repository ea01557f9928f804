import Derived.Test.YtefgpomabdplbaaGreatDoorY1
set_option linter.unusedVariables false
set_option linter.unusedSimpArgs false
set_option linter.unusedSectionVars false
set_option linter.unnecessarySimpa false
set_option maxHeartbeats 0
namespace Go.Proofs.YtefgpomabdplbaaGreatDoor
open Go.Sx
open Go
set_option maxRecDepth 100000
theorem zk1:(laidOutB Tryz.pinned.checked.prog)=true:=a8
theorem zk2:(mapsRowed Tryz.pinned.checked.prog)=true:=a8
theorem zk18:((Rows.OpenSpec.upto Rows.vmAlgebraSpec).bare.vars.all (Tryz.pinned.checked.prog.varReadable ·))=true:=a8
theorem zk19:(Tryz.f4.resultTypes.all (fun t=> Tryz.pinned.checked.prog.readableRec t && decide (t<Tryz.pinned.checked.prog.types.size)))=true:=a8
theorem zk20:((Rows.vmAlgebraUptoRow.ifacesOut==Tryz.f4.resultTypes.toList.any (Tryz.pinned.checked.prog.ifacesRec ·)))=true:=a8
theorem zk21:((Rows.vmAlgebraUptoRow.loopsOut==Tryz.f4.resultTypes.toList.any (Tryz.pinned.checked.prog.loopsFrom ·)))=true:=a8
theorem zk22:((Rows.vmAlgebraUptoRow.plainKeys==Tryz.pinned.checked.prog.plainKeys))=true:=a8
theorem zk23:(Rows.vmAlgebraUptoRow.shortTexts.isNone)=true:=a8
theorem zk24:(Tryz.pinned.checked.prog.stopsHeard)=true:=a8
theorem zk25:(Tryz.pinned.checked.prog.mayEnter)=true:=a8
theorem zk26:((Rows.vmAlgebraUptoRow.lifted==Tryz.pinned.checked.prog.liftsFinal))=true:=a8
theorem zk27:((Tryz.pinned.checked.prog.make==some Rows.vmAlgebraUptoRow.make))=true:=a8
theorem zk28:((Rows.vmAlgebraUptoRow.kinds==(if Rows.vmAlgebraUptoRow.domain.isEmpty then []else Tryz.f4.params.toList.map fun t=> match Tryz.pinned.checked.prog.underlying t with|some (.int k)=> some k|_=> none)))=true:=a8
theorem zk29:((Rows.vmAlgebraUptoRow.pinned==Rows.vmAlgebraUptoRow.pinnedBy))=true:=a8
theorem zk30:((Rows.vmAlgebraUptoRow.veiled==(Tryz.f4.params.toList++(Rows.OpenSpec.upto Rows.vmAlgebraSpec).bare.plain.varTypes Tryz.pinned.checked.prog++Tryz.f4.resultTypes.toList).any (Tryz.pinned.checked.prog.veiledRec ·)))=true:=a8
theorem zk31:(Rows.vmAlgebraUptoRow.veiledFits Tryz.pinned.checked.prog Tryz.f4.params.toList (Tryz.f4.params.toList++(Rows.OpenSpec.upto Rows.vmAlgebraSpec).bare.plain.varTypes Tryz.pinned.checked.prog++Tryz.f4.resultTypes.toList))=true:=a8
end Go.Proofs.YtefgpomabdplbaaGreatDoor
