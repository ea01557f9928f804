import Derived.Test.YtefgpomabdplbaaGreatDoorY1
set_option linter.unusedVariables false
set_option linter.unusedSimpArgs false
set_option linter.unusedSectionVars false
set_option linter.unnecessarySimpa false
set_option maxHeartbeats 0
namespace Go.Proofs.YtefgpomabdplbaaGreatDoor
open Go.Sx
open Go
set_option maxRecDepth 100000
theorem xk1:(laidOutB Tryz.pinned.checked.prog)=true:=a8
theorem xk2:(mapsRowed Tryz.pinned.checked.prog)=true:=a8
theorem xk18:((Rows.OpenSpec.upto Rows.vmEndsSpec).bare.vars.all (Tryz.pinned.checked.prog.varReadable ·))=true:=a8
theorem xk19:(Tryz.f3.resultTypes.all (fun t=> Tryz.pinned.checked.prog.readableRec t && decide (t<Tryz.pinned.checked.prog.types.size)))=true:=a8
theorem xk20:((Rows.vmEndsUptoRow.ifacesOut==Tryz.f3.resultTypes.toList.any (Tryz.pinned.checked.prog.ifacesRec ·)))=true:=a8
theorem xk21:((Rows.vmEndsUptoRow.loopsOut==Tryz.f3.resultTypes.toList.any (Tryz.pinned.checked.prog.loopsFrom ·)))=true:=a8
theorem xk22:((Rows.vmEndsUptoRow.plainKeys==Tryz.pinned.checked.prog.plainKeys))=true:=a8
theorem xk23:(Rows.vmEndsUptoRow.shortTexts.isNone)=true:=a8
theorem xk24:(Tryz.pinned.checked.prog.stopsHeard)=true:=a8
theorem xk25:(Tryz.pinned.checked.prog.mayEnter)=true:=a8
theorem xk26:((Rows.vmEndsUptoRow.lifted==Tryz.pinned.checked.prog.liftsFinal))=true:=a8
theorem xk27:((Tryz.pinned.checked.prog.make==some Rows.vmEndsUptoRow.make))=true:=a8
theorem xk28:((Rows.vmEndsUptoRow.kinds==(if Rows.vmEndsUptoRow.domain.isEmpty then []else Tryz.f3.params.toList.map fun t=> match Tryz.pinned.checked.prog.underlying t with|some (.int k)=> some k|_=> none)))=true:=a8
theorem xk29:((Rows.vmEndsUptoRow.pinned==Rows.vmEndsUptoRow.pinnedBy))=true:=a8
theorem xk30:((Rows.vmEndsUptoRow.veiled==(Tryz.f3.params.toList++(Rows.OpenSpec.upto Rows.vmEndsSpec).bare.plain.varTypes Tryz.pinned.checked.prog++Tryz.f3.resultTypes.toList).any (Tryz.pinned.checked.prog.veiledRec ·)))=true:=a8
theorem xk31:(Rows.vmEndsUptoRow.veiledFits Tryz.pinned.checked.prog Tryz.f3.params.toList (Tryz.f3.params.toList++(Rows.OpenSpec.upto Rows.vmEndsSpec).bare.plain.varTypes Tryz.pinned.checked.prog++Tryz.f3.resultTypes.toList))=true:=a8
end Go.Proofs.YtefgpomabdplbaaGreatDoor
