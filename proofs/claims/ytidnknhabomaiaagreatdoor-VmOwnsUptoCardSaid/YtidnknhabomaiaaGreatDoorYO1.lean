import Derived.Test.YtidnknhabomaiaaGreatDoorY1
set_option linter.unusedVariables false
set_option linter.unusedSimpArgs false
set_option linter.unusedSectionVars false
set_option linter.unnecessarySimpa false
set_option maxHeartbeats 0
namespace Go.Proofs.YtidnknhabomaiaaGreatDoor
open Go.Sx
open Go
set_option maxRecDepth 100000
theorem wk10:((Rows.vmOwnsUptoRow.unfollowed==Tryz.pinned.checked.prog.unfollowed 4))=true:=a8
theorem wk11:((Rows.vmOwnsUptoRow.recurses==Tryz.pinned.checked.prog.recurses 4))=true:=a8
theorem wk12:((Rows.vmOwnsUptoRow.named==Tryz.pinned.checked.prog.varsNamed 4))=true:=a8
theorem wk13:((Rows.vmOwnsUptoRow.maps==(Tryz.f4.params.toList++(Rows.OpenSpec.upto Rows.vmOwnsSpec).bare.plain.varTypes Tryz.pinned.checked.prog).any (Tryz.pinned.checked.prog.mapsRec ·)))=true:=a8
theorem wk14:((Rows.vmOwnsUptoRow.ifaces==(Tryz.f4.params.toList++(Rows.OpenSpec.upto Rows.vmOwnsSpec).bare.plain.varTypes Tryz.pinned.checked.prog).any (Tryz.pinned.checked.prog.ifacesRec ·)))=true:=a8
theorem wk15:((Rows.vmOwnsUptoRow.mapsOut==Tryz.pinned.checked.prog.mapsAmong Tryz.f4.resultTypes.toList))=true:=a8
theorem wk16:((Rows.vmOwnsUptoRow.loops==(Tryz.f4.params.toList++(Rows.OpenSpec.upto Rows.vmOwnsSpec).bare.plain.varTypes Tryz.pinned.checked.prog).any (Tryz.pinned.checked.prog.loopsFrom ·)))=true:=a8
theorem wk17:((Rows.vmOwnsUptoRow.wideKeys==(Tryz.f4.params.toList++(Rows.OpenSpec.upto Rows.vmOwnsSpec).bare.plain.varTypes Tryz.pinned.checked.prog++Tryz.f4.resultTypes.toList).any (Tryz.pinned.checked.prog.wideKeysFrom ·)))=true:=a8
end Go.Proofs.YtidnknhabomaiaaGreatDoor
