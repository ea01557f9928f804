import Derived.Test.YtniphaoadhojlaaGreatDoorY1
import Derived.SevenTiedAt
set_option linter.all false
namespace Go.Proofs.YtniphaoadhojlaaGreatDoor
open Go
theorem doorVars (os : Os) (args : Array Value) : ((World.doorLaid Tryz.prog 538 os).forCall (fun _ _ => 0) ⟨#[], args, []⟩).variablesRefB Tryz.prog = true := by kernel_rfl
end Go.Proofs.YtniphaoadhojlaaGreatDoor
namespace Go.Proofs.YtniphaoadhojlaaGreatDoor
open Go
theorem doorRest (os : Os) (args : Array Value) : (((World.doorLaid Tryz.prog 538 os).forCall (fun _ _ => 0) ⟨#[], args, []⟩).heap.toList.drop Tryz.prog.globals.size).take ((begin Tryz.prog (fun _ _ => 0) default).world.heap.size - Tryz.prog.globals.size) = (begin Tryz.prog (fun _ _ => 0) default).world.heap.toList.drop Tryz.prog.globals.size := by kernel_rfl
end Go.Proofs.YtniphaoadhojlaaGreatDoor
namespace Go.Proofs.YtniphaoadhojlaaGreatDoor
open Go
theorem tieNamed : varsNamedLaterB Tryz.prog (varsId Tryz.prog) laidL = true := by kernel_rfl
end Go.Proofs.YtniphaoadhojlaaGreatDoor
namespace Go.Proofs.YtniphaoadhojlaaGreatDoor
open Go
theorem tieRun : ∀ os tape, doorLeaves Tryz.prog 538 8 65 laidL os tape = some (laidL.filter fun x => x.2.handleName?.isNone, (funcsListed laidL).map (·.2.funcsOut)) := fun _ _ => by kernel_rfl
end Go.Proofs.YtniphaoadhojlaaGreatDoor
namespace Go.Proofs.YtniphaoadhojlaaGreatDoor
open Go
set_option maxRecDepth 100000
/-! ## The tie of the listed variables to the program's text -/
theorem tieL : Tryz.prog.laidByTextLater laidL kindsL true := Program.laidByTextLater_by_one 538 8 65 tieWord tieWord2 tieRoot tieKinds tieDoor tieNamed tieRun
theorem doorHeap (os : Os) (args : Array Value) {v : Value} {w : World} (hr : runN Tryz.prog 538 (Machine.entering Tryz.prog (World.unlaid Tryz.prog os) (fun _ _ => 0) (varsId Tryz.prog) ⟨#[], #[], []⟩) = .ended (.done v) w) :
    ((World.doorLaid Tryz.prog 538 os).forCall (fun _ _ => 0) ⟨#[], args, []⟩).memory.heap = w.memory.heap := by
  have h1 : (varsWorld Tryz.prog 538 (varsId Tryz.prog) os (fun _ _ => 0)).heap = w.heap := by unfold varsWorld; rw [hr]
  simp only [World.memory, World.forCall, World.doorLaid]
  rw [Input.heap_fresh rfl, Array.append_empty, h1]
theorem doorMet (os : Os) (args : Array Value) : laidMetH Tryz.prog laidL ((World.doorLaid Tryz.prog 538 os).forCall (fun _ _ => 0) ⟨#[], args, []⟩).memory := by
  have d := tieRun os (fun _ _ => 0)
  unfold doorLeaves at d
  split at d
  · rename_i v w hr
    simp only [Option.bind_eq_some_iff] at d
    obtain ⟨x, hx, d⟩ := d
    split at d
    · rename_i hb
      simp only [Bool.and_eq_true] at hb
      simp only [Option.map_eq_some_iff, Prod.mk.injEq] at d
      obtain ⟨y, hy, e1, e2⟩ := d
      have h := laidMetH_of_parts3 (fuel := 8) (laidMet_of_run (ps := x.2) 8 (by rw [hx, ← e1]) (decide_eq_true (nodupBits_sound hb.1.1).1) hb.1.2) hb.2 (by rw [hy, e2])
      exact h.of_heap (doorHeap os args hr).symm
    · cases d
  · cases d
theorem scoreSumsUpto_tied : Rows.scoreSumsUptoRow.laidByTextAt .later Tryz.pinned kindsL true := OpenClaim.laidByTextAt_later rfl rfl tieL noOwnUnsafe
end Go.Proofs.YtniphaoadhojlaaGreatDoor
