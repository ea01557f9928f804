import Derived.Test.YtcokhbglfaakjaaGreatDoorY1
set_option linter.all false
set_option maxHeartbeats 0
namespace Go.Proofs.YtcokhbglfaakjaaGreatDoor
open Go.Sx
open Go
set_option maxRecDepth 100000
theorem vsk10:((Rows.vmStepsUptoRow.unfollowed==Tryz.pinned.checked.prog.unfollowed 4))=true:=aa
theorem vsk11:((Rows.vmStepsUptoRow.recurses==Tryz.pinned.checked.prog.recurses 4))=true:=aa
theorem vsk12:((Rows.vmStepsUptoRow.named==Tryz.pinned.checked.prog.varsNamed 4))=true:=aa
theorem vsk13:((Rows.vmStepsUptoRow.maps==(Tryz.f4.params.toList++(Rows.OpenSpec.upto Rows.vmStepsSpec).bare.plain.varTypes Tryz.pinned.checked.prog).any (Tryz.pinned.checked.prog.mapsRec ·)))=true:=aa
theorem vsk14:((Rows.vmStepsUptoRow.ifaces==(Tryz.f4.params.toList++(Rows.OpenSpec.upto Rows.vmStepsSpec).bare.plain.varTypes Tryz.pinned.checked.prog).any (Tryz.pinned.checked.prog.ifacesRec ·)))=true:=aa
theorem vsk15:((Rows.vmStepsUptoRow.mapsOut==Tryz.pinned.checked.prog.mapsAmong Tryz.f4.resultTypes.toList))=true:=aa
theorem vsk16:((Rows.vmStepsUptoRow.loops==(Tryz.f4.params.toList++(Rows.OpenSpec.upto Rows.vmStepsSpec).bare.plain.varTypes Tryz.pinned.checked.prog).any (Tryz.pinned.checked.prog.loopsFrom ·)))=true:=aa
theorem vsk17:((Rows.vmStepsUptoRow.wideKeys==(Tryz.f4.params.toList++(Rows.OpenSpec.upto Rows.vmStepsSpec).bare.plain.varTypes Tryz.pinned.checked.prog++Tryz.f4.resultTypes.toList).any (Tryz.pinned.checked.prog.wideKeysFrom ·)))=true:=aa
end Go.Proofs.YtcokhbglfaakjaaGreatDoor
