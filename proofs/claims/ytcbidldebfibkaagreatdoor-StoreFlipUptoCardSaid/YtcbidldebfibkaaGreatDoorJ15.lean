/- StoreFlip, where what it reads is of bulk at most 1048576: for every index and every two numbers StoreFlip returns true, and the input reads as it did. No further condition. -/
import Derived.Test.YtcbidldebfibkaaGreatDoorJ14
import Derived.Test.YtcbidldebfibkaaGreatDoorJF0
import Derived.Test.YtcbidldebfibkaaGreatDoorJF1
import Derived.Test.YtcbidldebfibkaaGreatDoorJF2
set_option linter.unusedVariables false
set_option linter.unusedSimpArgs false
set_option linter.unusedSectionVars false
set_option linter.unnecessarySimpa false
namespace Go.Proofs.YtcbidldebfibkaaGreatDoor
open Go Go.Sx Go.ChangeShapes Go.WideShapes Go.ChangeAt Go.RowKit
set_option maxRecDepth 100000
set_option linter.unusedVariables false
theorem flip_aj {a b : Bool} (h : a = true) (k : b = true) : (a && b) = true := by rw [h, k]; rfl
theorem flip_facts : joinedFacts Tryz.pinned.checked.prog 5 Tryz.f5 (Rows.OpenSpec.upto Rows.storeFlipSpec).bare Rows.storeFlipUptoRow = true := by
  unfold joinedFacts
  exact flip_aj (flip_aj (flip_aj (flip_aj (flip_aj (flip_aj (flip_aj (flip_aj (flip_aj (flip_aj (flip_aj (flip_aj (flip_aj (flip_aj (flip_aj (flip_aj (flip_aj (flip_aj (flip_aj (flip_aj (flip_aj (flip_aj (flip_aj (flip_aj (flip_aj (flip_aj (flip_aj (flip_aj (flip_aj (flip_aj (flip_aj fk0 fk1) fk2) fk3) fk4) fk5) fk6) fk7) fk8) fk9) fk10) fk11) fk12) fk13) fk14) fk15) fk16) fk17) fk18) fk19) fk20) fk21) fk22) fk23) fk24) fk25) fk26) fk27) fk28) fk29) fk30) fk31
theorem flip_named : Tryz.pinned.checked.prog.funcNamed "concord/concordlaw27.StoreFlip" = some 5 := by kernel_rfl
theorem flip_looks : Tryz.pinned.checked.prog.looks [] = true := by kernel_rfl
theorem flip_want3 : Tryz.prog.wantsStandIn 3 = false := by kernel_rfl
theorem flip_want27 : Tryz.prog.wantsStandIn 27 = false := by kernel_rfl
theorem flip_said : Rows.StoreFlipUptoSaid :=
  OpenClaim.holds_of_cond 5 Tryz.f5 rfl rfl rfl rfl rfl rfl rfl ⟨rfl, rfl, rfl, rfl, rfl⟩ rfl rfl rfl rfl rfl flip_named Tryz.func5 flip_facts
    (of_decide_eq_true (by kernel_rfl)) (by unfold Func.isWrapper; first | (rw [if_pos (by decide +kernel)]; kernel_rfl) | (rw [if_neg (by decide +kernel)]; exact ⟨rfl, rfl⟩))
    (fun os started H enc _ F => by rw [OpenClaim.pre_eq_preRow]; exact flip_lifted os started H enc F)
theorem flip_plain (f : FuncId) (fn : Func) (hf : Tryz.pinned.checked.prog.funcNamed "concord/concordlaw27.StoreFlip" = some f) (hfn : Tryz.pinned.checked.prog.funcs[f]? = some fn) :
    true = Tryz.pinned.checked.prog.looks [] ∧ ∀ (j : Nat) t, fn.params[j]? = some t → Tryz.pinned.checked.prog.wantsStandIn t = false := by
  obtain rfl : f = 5 := Option.some.inj (flip_named.symm.trans hf) |>.symm
  obtain rfl : fn = Tryz.f5 := (Option.some.inj (Tryz.func5.symm.trans hfn)).symm
  refine ⟨flip_looks.symm, fun j t ht => ?_⟩
  rw [Tryz.params5] at ht
  have h : t = 27 ∨ t = 3 := by simpa using Array.mem_of_getElem? ht
  rcases h with rfl | rfl
  · exact flip_want27
  · exact flip_want3
theorem storeFlip_holds : Rows.StoreFlipUptoCardSaid :=
  Claim7.holds_tied_plain_at .later [] _ _ _ _ flip_said (fun _ h => by cases h) (by kernel_rfl) (fun _ h => by cases h) storeFlipUpto_tied rfl ⟨rfl, rfl⟩ (by kernel_rfl) rfl flip_plain (by kernel_rfl)
end Go.Proofs.YtcbidldebfibkaaGreatDoor
