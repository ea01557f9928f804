import Derived.Test.YtcokhbglfaakjaaGreatDoorY1
set_option linter.all false
set_option maxHeartbeats 0
namespace Go.Proofs.YtcokhbglfaakjaaGreatDoor
open Go.Sx
open Go
set_option maxRecDepth 100000
theorem VR:((Rows.vmRunsUptoRow.unfollowed==Tryz.pinned.checked.prog.unfollowed 3))=true:=aa
theorem VQ:((Rows.vmRunsUptoRow.recurses==Tryz.pinned.checked.prog.recurses 3))=true:=aa
theorem VP:((Rows.vmRunsUptoRow.named==Tryz.pinned.checked.prog.varsNamed 3))=true:=aa
theorem VO:((Rows.vmRunsUptoRow.maps==(Tryz.f3.params.toList++(Rows.OpenSpec.upto Rows.vmRunsSpec).bare.plain.varTypes Tryz.pinned.checked.prog).any (Tryz.pinned.checked.prog.mapsRec ·)))=true:=aa
theorem VN:((Rows.vmRunsUptoRow.ifaces==(Tryz.f3.params.toList++(Rows.OpenSpec.upto Rows.vmRunsSpec).bare.plain.varTypes Tryz.pinned.checked.prog).any (Tryz.pinned.checked.prog.ifacesRec ·)))=true:=aa
theorem VM:((Rows.vmRunsUptoRow.mapsOut==Tryz.pinned.checked.prog.mapsAmong Tryz.f3.resultTypes.toList))=true:=aa
theorem VL:((Rows.vmRunsUptoRow.loops==(Tryz.f3.params.toList++(Rows.OpenSpec.upto Rows.vmRunsSpec).bare.plain.varTypes Tryz.pinned.checked.prog).any (Tryz.pinned.checked.prog.loopsFrom ·)))=true:=aa
theorem VK:((Rows.vmRunsUptoRow.wideKeys==(Tryz.f3.params.toList++(Rows.OpenSpec.upto Rows.vmRunsSpec).bare.plain.varTypes Tryz.pinned.checked.prog++Tryz.f3.resultTypes.toList).any (Tryz.pinned.checked.prog.wideKeysFrom ·)))=true:=aa
end Go.Proofs.YtcokhbglfaakjaaGreatDoor
