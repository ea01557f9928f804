import Derived.Test.YtcokhbglfaakjaaGreatDoorQ8
import Derived.Test.YtcokhbglfaakjaaGreatDoorQ6
set_option linter.all false
set_option maxHeartbeats 0
namespace Go.Sx
open Go Go.Proofs
set_option maxRecDepth 100000
def mkF (q:List Nat) (k:Nat):FV:=⟨eG q,((k &&& 3:Nat):Int),decide (((k &&& 4:Nat):Int)≠0),decide (((k &&& 8:Nat):Int)≠0),decide (((k &&& 16:Nat):Int)≠0)⟩
theorem I8 {most:Nat}{l q:List Nat}{m:Nat}(a:∀x∈l,x<256) (h:mq most l=.ok (q,m)):m≤l.length∧q.length≤most∧(∀x∈q,x<256)∧l.take m=uv q.length++q:=by
 unfold mq at h
 split at h
 ·cases h
 ·rename_i n b hr;obtain⟨h1,h2,h3,h4⟩:=lL a hr
  split at h
  ·cases h
  ·simp only[Except.ok.injEq,Prod.mk.injEq]at h;obtain⟨rfl,rfl⟩:=h;have hl:((l.drop b).take n).length=n:=by rw[Yg,Yo];omega
   refine⟨a8,a8,λx hx=>a x (Yp (Yq hx)),?_⟩;rw[hl,←h3,List.take_add]
section
variable {G:dJ}{P:Program}{t:Tm}{H:dD}{dst:Option Tmp}{ty:TypeId}{pos:String}{after:Array Edge}{g:Option (Nat×Bool)}
end
end Go.Sx
