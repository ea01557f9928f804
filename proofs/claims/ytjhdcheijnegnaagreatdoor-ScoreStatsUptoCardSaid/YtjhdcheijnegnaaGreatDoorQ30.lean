import Derived.Test.YtjhdcheijnegnaaGreatDoorQ27
import Derived.Test.YtjhdcheijnegnaaGreatDoorQ24
set_option linter.all false
set_option maxHeartbeats 0
namespace Go.Sx
open Go Go.Proofs
set_option maxRecDepth 100000
theorem LK (a:List Tri):Au (dq a) a:=⟨by rw[sS];exact iZ _,λk=>by rw[sS,jy],λe he=>by
 obtain⟨k,_,rfl⟩:=Xw.1 he;rfl⟩
theorem qe.less {H H':cG}{l:List (Nat×SV)}{ps:List Po}(h:qe H l ps) (hs:cH H' H):qe H' l ps:=⟨h.1,λi p q hp a=>by
 obtain⟨h1,h2⟩:=h.2 i p q hp a;exact⟨h1,dj hs h2⟩⟩
end Go.Sx
