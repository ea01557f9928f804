import Derived.Test.YtidnknhabomaiaaGreatDoorY1
set_option linter.unusedVariables false
set_option linter.unusedSimpArgs false
set_option linter.unusedSectionVars false
set_option linter.unnecessarySimpa false
set_option maxHeartbeats 0
namespace Go.Proofs.YtidnknhabomaiaaGreatDoor
open Go.Sx
open Go
set_option maxRecDepth 100000
theorem PM:((Rows.vmFuelUptoRow.unfollowed==Tryz.pinned.checked.prog.unfollowed 3))=true:=a8
theorem PL:((Rows.vmFuelUptoRow.recurses==Tryz.pinned.checked.prog.recurses 3))=true:=a8
theorem PK:((Rows.vmFuelUptoRow.named==Tryz.pinned.checked.prog.varsNamed 3))=true:=a8
theorem PJ:((Rows.vmFuelUptoRow.maps==(Tryz.f3.params.toList++(Rows.OpenSpec.upto Rows.vmFuelSpec).bare.plain.varTypes Tryz.pinned.checked.prog).any (Tryz.pinned.checked.prog.mapsRec ·)))=true:=a8
theorem PI:((Rows.vmFuelUptoRow.ifaces==(Tryz.f3.params.toList++(Rows.OpenSpec.upto Rows.vmFuelSpec).bare.plain.varTypes Tryz.pinned.checked.prog).any (Tryz.pinned.checked.prog.ifacesRec ·)))=true:=a8
theorem PH:((Rows.vmFuelUptoRow.mapsOut==Tryz.pinned.checked.prog.mapsAmong Tryz.f3.resultTypes.toList))=true:=a8
theorem PF:((Rows.vmFuelUptoRow.loops==(Tryz.f3.params.toList++(Rows.OpenSpec.upto Rows.vmFuelSpec).bare.plain.varTypes Tryz.pinned.checked.prog).any (Tryz.pinned.checked.prog.loopsFrom ·)))=true:=a8
theorem PE:((Rows.vmFuelUptoRow.wideKeys==(Tryz.f3.params.toList++(Rows.OpenSpec.upto Rows.vmFuelSpec).bare.plain.varTypes Tryz.pinned.checked.prog++Tryz.f3.resultTypes.toList).any (Tryz.pinned.checked.prog.wideKeysFrom ·)))=true:=a8
end Go.Proofs.YtidnknhabomaiaaGreatDoor
