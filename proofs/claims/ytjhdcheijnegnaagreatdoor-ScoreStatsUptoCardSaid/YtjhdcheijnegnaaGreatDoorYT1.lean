import Derived.Test.YtjhdcheijnegnaaGreatDoorY1
set_option linter.all false
set_option maxHeartbeats 0
namespace Go.Proofs.YtjhdcheijnegnaaGreatDoor
open Go.Sx
open Go
set_option maxRecDepth 100000
theorem Pp:((Rows.scoreStatsUptoRow.unfollowed==Tryz.pinned.checked.prog.unfollowed 3))=true:=aa
theorem Pn:((Rows.scoreStatsUptoRow.recurses==Tryz.pinned.checked.prog.recurses 3))=true:=aa
theorem Pm:((Rows.scoreStatsUptoRow.named==Tryz.pinned.checked.prog.varsNamed 3))=true:=aa
theorem Pk:((Rows.scoreStatsUptoRow.maps==(Tryz.f3.params.toList++(Rows.OpenSpec.upto Rows.scoreStatsSpec).bare.plain.varTypes Tryz.pinned.checked.prog).any (Tryz.pinned.checked.prog.mapsRec ·)))=true:=aa
theorem Pj:((Rows.scoreStatsUptoRow.ifaces==(Tryz.f3.params.toList++(Rows.OpenSpec.upto Rows.scoreStatsSpec).bare.plain.varTypes Tryz.pinned.checked.prog).any (Tryz.pinned.checked.prog.ifacesRec ·)))=true:=aa
theorem Ph:((Rows.scoreStatsUptoRow.mapsOut==Tryz.pinned.checked.prog.mapsAmong Tryz.f3.resultTypes.toList))=true:=aa
theorem Pg:((Rows.scoreStatsUptoRow.loops==(Tryz.f3.params.toList++(Rows.OpenSpec.upto Rows.scoreStatsSpec).bare.plain.varTypes Tryz.pinned.checked.prog).any (Tryz.pinned.checked.prog.loopsFrom ·)))=true:=aa
theorem Pf:((Rows.scoreStatsUptoRow.wideKeys==(Tryz.f3.params.toList++(Rows.OpenSpec.upto Rows.scoreStatsSpec).bare.plain.varTypes Tryz.pinned.checked.prog++Tryz.f3.resultTypes.toList).any (Tryz.pinned.checked.prog.wideKeysFrom ·)))=true:=aa
end Go.Proofs.YtjhdcheijnegnaaGreatDoor
