import Derived.Test.YtjhdcheijnegnaaGreatDoorY2
import Derived.Test.YtjhdcheijnegnaaGreatDoorY3
import Derived.SevenTiedAt
set_option linter.all false
set_option maxHeartbeats 0
namespace Go.Proofs.YtjhdcheijnegnaaGreatDoor
open Go.Sx
open Go
set_option maxRecDepth 100000
theorem Pq:Tryz.prog.laidByTextLater lO zS true:=Program.laidByTextLater_by_one 2000 8 512 Hv DR Hw DU Hx DT DS
theorem Gz (os:Os) (args:Array Value) {v:Value}{w:World}(hr:runN Tryz.prog 2000 (Machine.entering Tryz.prog (World.unlaid Tryz.prog os) (fun _ _=> 0) (varsId Tryz.prog) ⟨#[], #[], []⟩)= .ended (.done v) w):
 ((World.doorLaid Tryz.prog 2000 os).forCall (fun _ _=> 0) ⟨#[],args, []⟩).memory.heap=w.memory.heap:=by
 have h1:(varsWorld Tryz.prog 2000 (varsId Tryz.prog) os (fun _ _=> 0)).heap=w.heap:=by unfold varsWorld;rw[hr]
 simp only[World.memory,World.forCall,World.doorLaid]
 rw[Input.heap_fresh rfl,Array.append_empty,h1]
theorem Je (os:Os) (args:Array Value):laidMetH Tryz.prog lO ((World.doorLaid Tryz.prog 2000 os).forCall (fun _ _=> 0) ⟨#[],args, []⟩).memory:=by
 have d:=DS os (fun _ _=> 0)
 unfold doorLeaves at d
 split at d
 ·rename_i v w hr
  simp only[Option.bind_eq_some_iff]at d
  obtain⟨x,hx,d⟩:=d
  split at d
  ·rename_i hb
   simp only[Xu]at hb
   simp only[Option.map_eq_some_iff,Prod.mk.injEq]at d
   obtain⟨y,hy,e1,e2⟩:=d
   have h:=laidMetH_of_parts3 (fuel:=8) (laidMet_of_run (ps:=x.2) 8 (by rw[hx,←e1]) (Ys (nodupBits_sound hb.1.1).1) hb.1.2) hb.2 (by rw[hy,e2])
   exact h.of_heap (Gz os args hr).symm
  ·cases d
 ·cases d
theorem oc:Rows.scoreStatsUptoRow.laidByTextAt .later Tryz.pinned zS true:=OpenClaim.laidByTextAt_later rfl rfl Pq xV
end Go.Proofs.YtjhdcheijnegnaaGreatDoor
