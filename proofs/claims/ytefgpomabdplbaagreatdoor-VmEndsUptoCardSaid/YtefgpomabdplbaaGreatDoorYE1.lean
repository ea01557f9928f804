import Derived.Test.YtefgpomabdplbaaGreatDoorY1
set_option linter.unusedVariables false
set_option linter.unusedSimpArgs false
set_option linter.unusedSectionVars false
set_option linter.unnecessarySimpa false
set_option maxHeartbeats 0
namespace Go.Proofs.YtefgpomabdplbaaGreatDoor
open Go.Sx
open Go
set_option maxRecDepth 100000
theorem xk10:((Rows.vmEndsUptoRow.unfollowed==Tryz.pinned.checked.prog.unfollowed 3))=true:=a8
theorem xk11:((Rows.vmEndsUptoRow.recurses==Tryz.pinned.checked.prog.recurses 3))=true:=a8
theorem xk12:((Rows.vmEndsUptoRow.named==Tryz.pinned.checked.prog.varsNamed 3))=true:=a8
theorem xk13:((Rows.vmEndsUptoRow.maps==(Tryz.f3.params.toList++(Rows.OpenSpec.upto Rows.vmEndsSpec).bare.plain.varTypes Tryz.pinned.checked.prog).any (Tryz.pinned.checked.prog.mapsRec ·)))=true:=a8
theorem xk14:((Rows.vmEndsUptoRow.ifaces==(Tryz.f3.params.toList++(Rows.OpenSpec.upto Rows.vmEndsSpec).bare.plain.varTypes Tryz.pinned.checked.prog).any (Tryz.pinned.checked.prog.ifacesRec ·)))=true:=a8
theorem xk15:((Rows.vmEndsUptoRow.mapsOut==Tryz.pinned.checked.prog.mapsAmong Tryz.f3.resultTypes.toList))=true:=a8
theorem xk16:((Rows.vmEndsUptoRow.loops==(Tryz.f3.params.toList++(Rows.OpenSpec.upto Rows.vmEndsSpec).bare.plain.varTypes Tryz.pinned.checked.prog).any (Tryz.pinned.checked.prog.loopsFrom ·)))=true:=a8
theorem xk17:((Rows.vmEndsUptoRow.wideKeys==(Tryz.f3.params.toList++(Rows.OpenSpec.upto Rows.vmEndsSpec).bare.plain.varTypes Tryz.pinned.checked.prog++Tryz.f3.resultTypes.toList).any (Tryz.pinned.checked.prog.wideKeysFrom ·)))=true:=a8
end Go.Proofs.YtefgpomabdplbaaGreatDoor
