import Derived.Test.YtidnknhabomaiaaGreatDoorY1
set_option linter.unusedVariables false
set_option linter.unusedSimpArgs false
set_option linter.unusedSectionVars false
set_option linter.unnecessarySimpa false
set_option maxHeartbeats 0
namespace Go.Proofs.YtidnknhabomaiaaGreatDoor
open Go.Sx
open Go
set_option maxRecDepth 100000
theorem vk1:(laidOutB Tryz.pinned.checked.prog)=true:=a8
theorem vk2:(mapsRowed Tryz.pinned.checked.prog)=true:=a8
theorem PD:((Rows.OpenSpec.upto Rows.vmFuelSpec).bare.vars.all (Tryz.pinned.checked.prog.varReadable ·))=true:=a8
theorem PC:(Tryz.f3.resultTypes.all (fun t=> Tryz.pinned.checked.prog.readableRec t && decide (t<Tryz.pinned.checked.prog.types.size)))=true:=a8
theorem PB:((Rows.vmFuelUptoRow.ifacesOut==Tryz.f3.resultTypes.toList.any (Tryz.pinned.checked.prog.ifacesRec ·)))=true:=a8
theorem PA:((Rows.vmFuelUptoRow.loopsOut==Tryz.f3.resultTypes.toList.any (Tryz.pinned.checked.prog.loopsFrom ·)))=true:=a8
theorem Pz:((Rows.vmFuelUptoRow.plainKeys==Tryz.pinned.checked.prog.plainKeys))=true:=a8
theorem Py:(Rows.vmFuelUptoRow.shortTexts.isNone)=true:=a8
theorem Px:(Tryz.pinned.checked.prog.stopsHeard)=true:=a8
theorem Pw:(Tryz.pinned.checked.prog.mayEnter)=true:=a8
theorem Pv:((Rows.vmFuelUptoRow.lifted==Tryz.pinned.checked.prog.liftsFinal))=true:=a8
theorem Pu:((Tryz.pinned.checked.prog.make==some Rows.vmFuelUptoRow.make))=true:=a8
theorem Ps:((Rows.vmFuelUptoRow.kinds==(if Rows.vmFuelUptoRow.domain.isEmpty then []else Tryz.f3.params.toList.map fun t=> match Tryz.pinned.checked.prog.underlying t with|some (.int k)=> some k|_=> none)))=true:=a8
theorem Pr:((Rows.vmFuelUptoRow.pinned==Rows.vmFuelUptoRow.pinnedBy))=true:=a8
theorem Pq:((Rows.vmFuelUptoRow.veiled==(Tryz.f3.params.toList++(Rows.OpenSpec.upto Rows.vmFuelSpec).bare.plain.varTypes Tryz.pinned.checked.prog++Tryz.f3.resultTypes.toList).any (Tryz.pinned.checked.prog.veiledRec ·)))=true:=a8
theorem Pp:(Rows.vmFuelUptoRow.veiledFits Tryz.pinned.checked.prog Tryz.f3.params.toList (Tryz.f3.params.toList++(Rows.OpenSpec.upto Rows.vmFuelSpec).bare.plain.varTypes Tryz.pinned.checked.prog++Tryz.f3.resultTypes.toList))=true:=a8
end Go.Proofs.YtidnknhabomaiaaGreatDoor
