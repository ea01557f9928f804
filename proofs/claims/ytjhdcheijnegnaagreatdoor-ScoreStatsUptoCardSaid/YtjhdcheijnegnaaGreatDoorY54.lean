/- ScoreStats: Gather and Df over parts with their dead tell just the sums over the live documents, of any documents, cuts and dead ids within the bound of the statement; asked twice they answer new memory. No condition beyond the statement. -/
import Derived.Test.YtjhdcheijnegnaaGreatDoorY52
import Derived.Test.YtjhdcheijnegnaaGreatDoorY55
import Derived.Test.YtjhdcheijnegnaaGreatDoorY56
set_option linter.all false
set_option maxHeartbeats 0
namespace Go.Proofs.YtjhdcheijnegnaaGreatDoor
open Go.Sx
open Go Go.ChangeShapes Go.WideShapes Go.ChangeAt Go.RowKit
set_option maxRecDepth 100000
theorem scoreStats_holds:Rows.ScoreStatsUptoCardSaid:=
 Claim7.holds_tied_plain_at .later [] _ _ _ _ I8 (λ_ h=>aU) st_wfb (λ_ h=>aU) oc rfl ⟨rfl,rfl⟩ st_main rfl Ep st_goes
end Go.Proofs.YtjhdcheijnegnaaGreatDoor
