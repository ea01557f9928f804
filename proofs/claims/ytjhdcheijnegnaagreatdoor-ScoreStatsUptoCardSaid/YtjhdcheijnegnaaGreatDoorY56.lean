import Derived.Test.YtjhdcheijnegnaaGreatDoorY1
import Derived.Test.YtjhdcheijnegnaaGreatDoorCards
set_option linter.all false
set_option maxHeartbeats 0
namespace Go.Proofs.YtjhdcheijnegnaaGreatDoor
open Go.Sx
open Go
set_option maxRecDepth 100000
theorem st_main:Tryz.pinned.checked.prog.mainIs=some (Rows.scoreStatsUptoCard.stood.harness.1,Rows.scoreStatsUptoCard.stood.harness.2.toList):=aa
theorem st_wfb:Rows.scoreStatsUptoRow.wfByText (Rows.OpenSpec.upto Rows.scoreStatsSpec)=true:=aa
end Go.Proofs.YtjhdcheijnegnaaGreatDoor
