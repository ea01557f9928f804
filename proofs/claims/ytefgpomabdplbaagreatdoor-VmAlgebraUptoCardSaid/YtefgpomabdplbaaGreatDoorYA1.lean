import Derived.Test.YtefgpomabdplbaaGreatDoorY1
set_option linter.unusedVariables false
set_option linter.unusedSimpArgs false
set_option linter.unusedSectionVars false
set_option linter.unnecessarySimpa false
set_option maxHeartbeats 0
namespace Go.Proofs.YtefgpomabdplbaaGreatDoor
open Go.Sx
open Go
set_option maxRecDepth 100000
theorem zk10:((Rows.vmAlgebraUptoRow.unfollowed==Tryz.pinned.checked.prog.unfollowed 4))=true:=a8
theorem zk11:((Rows.vmAlgebraUptoRow.recurses==Tryz.pinned.checked.prog.recurses 4))=true:=a8
theorem zk12:((Rows.vmAlgebraUptoRow.named==Tryz.pinned.checked.prog.varsNamed 4))=true:=a8
theorem zk13:((Rows.vmAlgebraUptoRow.maps==(Tryz.f4.params.toList++(Rows.OpenSpec.upto Rows.vmAlgebraSpec).bare.plain.varTypes Tryz.pinned.checked.prog).any (Tryz.pinned.checked.prog.mapsRec ·)))=true:=a8
theorem zk14:((Rows.vmAlgebraUptoRow.ifaces==(Tryz.f4.params.toList++(Rows.OpenSpec.upto Rows.vmAlgebraSpec).bare.plain.varTypes Tryz.pinned.checked.prog).any (Tryz.pinned.checked.prog.ifacesRec ·)))=true:=a8
theorem zk15:((Rows.vmAlgebraUptoRow.mapsOut==Tryz.pinned.checked.prog.mapsAmong Tryz.f4.resultTypes.toList))=true:=a8
theorem zk16:((Rows.vmAlgebraUptoRow.loops==(Tryz.f4.params.toList++(Rows.OpenSpec.upto Rows.vmAlgebraSpec).bare.plain.varTypes Tryz.pinned.checked.prog).any (Tryz.pinned.checked.prog.loopsFrom ·)))=true:=a8
theorem zk17:((Rows.vmAlgebraUptoRow.wideKeys==(Tryz.f4.params.toList++(Rows.OpenSpec.upto Rows.vmAlgebraSpec).bare.plain.varTypes Tryz.pinned.checked.prog++Tryz.f4.resultTypes.toList).any (Tryz.pinned.checked.prog.wideKeysFrom ·)))=true:=a8
end Go.Proofs.YtefgpomabdplbaaGreatDoor
