import Derived.Test.YtidnknhabomaiaaGreatDoorY1
set_option linter.unusedVariables false
set_option linter.unusedSimpArgs false
set_option linter.unusedSectionVars false
set_option linter.unnecessarySimpa false
set_option maxHeartbeats 0
namespace Go.Proofs.YtidnknhabomaiaaGreatDoor
open Go.Sx
open Go
set_option maxRecDepth 100000
theorem wk1:(laidOutB Tryz.pinned.checked.prog)=true:=a8
theorem wk2:(mapsRowed Tryz.pinned.checked.prog)=true:=a8
theorem wk18:((Rows.OpenSpec.upto Rows.vmOwnsSpec).bare.vars.all (Tryz.pinned.checked.prog.varReadable ·))=true:=a8
theorem wk19:(Tryz.f4.resultTypes.all (fun t=> Tryz.pinned.checked.prog.readableRec t && decide (t<Tryz.pinned.checked.prog.types.size)))=true:=a8
theorem wk20:((Rows.vmOwnsUptoRow.ifacesOut==Tryz.f4.resultTypes.toList.any (Tryz.pinned.checked.prog.ifacesRec ·)))=true:=a8
theorem wk21:((Rows.vmOwnsUptoRow.loopsOut==Tryz.f4.resultTypes.toList.any (Tryz.pinned.checked.prog.loopsFrom ·)))=true:=a8
theorem wk22:((Rows.vmOwnsUptoRow.plainKeys==Tryz.pinned.checked.prog.plainKeys))=true:=a8
theorem wk23:(Rows.vmOwnsUptoRow.shortTexts.isNone)=true:=a8
theorem wk24:(Tryz.pinned.checked.prog.stopsHeard)=true:=a8
theorem wk25:(Tryz.pinned.checked.prog.mayEnter)=true:=a8
theorem wk26:((Rows.vmOwnsUptoRow.lifted==Tryz.pinned.checked.prog.liftsFinal))=true:=a8
theorem wk27:((Tryz.pinned.checked.prog.make==some Rows.vmOwnsUptoRow.make))=true:=a8
theorem wk28:((Rows.vmOwnsUptoRow.kinds==(if Rows.vmOwnsUptoRow.domain.isEmpty then []else Tryz.f4.params.toList.map fun t=> match Tryz.pinned.checked.prog.underlying t with|some (.int k)=> some k|_=> none)))=true:=a8
theorem wk29:((Rows.vmOwnsUptoRow.pinned==Rows.vmOwnsUptoRow.pinnedBy))=true:=a8
theorem wk30:((Rows.vmOwnsUptoRow.veiled==(Tryz.f4.params.toList++(Rows.OpenSpec.upto Rows.vmOwnsSpec).bare.plain.varTypes Tryz.pinned.checked.prog++Tryz.f4.resultTypes.toList).any (Tryz.pinned.checked.prog.veiledRec ·)))=true:=a8
theorem wk31:(Rows.vmOwnsUptoRow.veiledFits Tryz.pinned.checked.prog Tryz.f4.params.toList (Tryz.f4.params.toList++(Rows.OpenSpec.upto Rows.vmOwnsSpec).bare.plain.varTypes Tryz.pinned.checked.prog++Tryz.f4.resultTypes.toList))=true:=a8
end Go.Proofs.YtidnknhabomaiaaGreatDoor
