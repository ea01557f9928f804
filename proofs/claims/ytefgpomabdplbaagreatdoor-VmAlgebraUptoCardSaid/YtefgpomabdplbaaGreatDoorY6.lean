import Derived.Test.YtefgpomabdplbaaGreatDoorY2
import Derived.Test.YtefgpomabdplbaaGreatDoorY3
import Derived.SevenTiedAt
set_option linter.unusedVariables false
set_option linter.unusedSimpArgs false
set_option linter.unusedSectionVars false
set_option linter.unnecessarySimpa false
set_option maxHeartbeats 0
namespace Go.Proofs.YtefgpomabdplbaaGreatDoor
open Go.Sx
open Go
set_option maxRecDepth 100000
theorem PN:Tryz.prog.laidByTextLater nh AB true:=Program.laidByTextLater_by_one 521 8 257 Ik EE Il EI Im EH EF
theorem Hq (os:Os) (args:Array Value) {v:Value}{w:World}(hr:runN Tryz.prog 521 (Machine.entering Tryz.prog (World.unlaid Tryz.prog os) (fun _ _=> 0) (varsId Tryz.prog) ⟨#[], #[], []⟩)= .ended (.done v) w):
 ((World.doorLaid Tryz.prog 521 os).forCall (fun _ _=> 0) ⟨#[],args, []⟩).memory.heap=w.memory.heap:=by
 have h1:(varsWorld Tryz.prog 521 (varsId Tryz.prog) os (fun _ _=> 0)).heap=w.heap:=by unfold varsWorld;rw[hr]
 simp only[World.memory,World.forCall,World.doorLaid]
 rw[Input.heap_fresh rfl,Array.append_empty,h1]
theorem Kl (os:Os) (args:Array Value):laidMetH Tryz.prog nh ((World.doorLaid Tryz.prog 521 os).forCall (fun _ _=> 0) ⟨#[],args, []⟩).memory:=by
 have d:=EF os (fun _ _=> 0)
 unfold doorLeaves at d
 split at d
 ·rename_i v w hr
  simp only[Option.bind_eq_some_iff]at d
  obtain⟨x,hx,d⟩:=d
  split at d
  ·rename_i hb
   simp only[Bool.and_eq_true]at hb
   simp only[Option.map_eq_some_iff,Prod.mk.injEq]at d
   obtain⟨y,hy,e1,e2⟩:=d
   have h:=laidMetH_of_parts3 (fuel:=8) (laidMet_of_run (ps:=x.2) 8 (by rw[hx,←e1]) (Ys (nodupBits_sound hb.1.1).1) hb.1.2) hb.2 (by rw[hy,e2])
   exact h.of_heap (Hq os args hr).symm
  ·cases d
 ·cases d
theorem vmAlgebraUpto_tied:Rows.vmAlgebraUptoRow.laidByTextAt .later Tryz.pinned AB true:=OpenClaim.laidByTextAt_later rfl rfl PN yr
end Go.Proofs.YtefgpomabdplbaaGreatDoor
