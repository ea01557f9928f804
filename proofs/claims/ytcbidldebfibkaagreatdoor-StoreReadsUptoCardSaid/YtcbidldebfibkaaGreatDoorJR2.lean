import Derived.Test.YtcbidldebfibkaaGreatDoorR1
set_option linter.unusedVariables false
set_option linter.unusedSimpArgs false
set_option linter.unusedSectionVars false
set_option linter.unnecessarySimpa false
set_option maxHeartbeats 0
namespace Go.Proofs.YtcbidldebfibkaaGreatDoor
open Go.Sx
open Go
set_option maxRecDepth 100000
theorem rk1:(laidOutB Tryz.pinned.checked.prog)=true:=aa
theorem rk2:(mapsRowed Tryz.pinned.checked.prog)=true:=aa
theorem Nc:((Rows.OpenSpec.upto Rows.storeReadsSpec).bare.vars.all (Tryz.pinned.checked.prog.varReadable ·))=true:=aa
theorem Nb:(Tryz.f7.resultTypes.all (fun t=> Tryz.pinned.checked.prog.readableRec t && decide (t<Tryz.pinned.checked.prog.types.size)))=true:=aa
theorem Na:((Rows.storeReadsUptoRow.ifacesOut==Tryz.f7.resultTypes.toList.any (Tryz.pinned.checked.prog.ifacesRec ·)))=true:=aa
theorem N9:((Rows.storeReadsUptoRow.loopsOut==Tryz.f7.resultTypes.toList.any (Tryz.pinned.checked.prog.loopsFrom ·)))=true:=aa
theorem N8:((Rows.storeReadsUptoRow.plainKeys==Tryz.pinned.checked.prog.plainKeys))=true:=aa
theorem N7:(Rows.storeReadsUptoRow.shortTexts.isNone)=true:=aa
theorem N6:(Tryz.pinned.checked.prog.stopsHeard)=true:=aa
theorem N5:(Tryz.pinned.checked.prog.mayEnter)=true:=aa
theorem N4:((Rows.storeReadsUptoRow.lifted==Tryz.pinned.checked.prog.liftsFinal))=true:=aa
theorem N3:((Tryz.pinned.checked.prog.make==some Rows.storeReadsUptoRow.make))=true:=aa
theorem N0:((Rows.storeReadsUptoRow.kinds==(if Rows.storeReadsUptoRow.domain.isEmpty then []else Tryz.f7.params.toList.map fun t=> match Tryz.pinned.checked.prog.underlying t with|some (.int k)=> some k|_=> none)))=true:=aa
theorem MZ:((Rows.storeReadsUptoRow.pinned==Rows.storeReadsUptoRow.pinnedBy))=true:=aa
theorem MY:((Rows.storeReadsUptoRow.veiled==(Tryz.f7.params.toList++(Rows.OpenSpec.upto Rows.storeReadsSpec).bare.plain.varTypes Tryz.pinned.checked.prog++Tryz.f7.resultTypes.toList).any (Tryz.pinned.checked.prog.veiledRec ·)))=true:=aa
theorem MX:(Rows.storeReadsUptoRow.veiledFits Tryz.pinned.checked.prog Tryz.f7.params.toList (Tryz.f7.params.toList++(Rows.OpenSpec.upto Rows.storeReadsSpec).bare.plain.varTypes Tryz.pinned.checked.prog++Tryz.f7.resultTypes.toList))=true:=aa
end Go.Proofs.YtcbidldebfibkaaGreatDoor
