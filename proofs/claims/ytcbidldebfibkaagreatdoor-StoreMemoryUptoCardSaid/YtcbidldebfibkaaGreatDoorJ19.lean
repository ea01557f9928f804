/- StoreMemory, where what it reads is of bulk at most 1048576: for every index StoreMemory returns true, and the input reads as it did. No further condition. -/
import Derived.Test.YtcbidldebfibkaaGreatDoorJ18
import Derived.Test.YtcbidldebfibkaaGreatDoorJM0
import Derived.Test.YtcbidldebfibkaaGreatDoorJM1
import Derived.Test.YtcbidldebfibkaaGreatDoorJM2
set_option linter.unusedVariables false
set_option linter.unusedSimpArgs false
set_option linter.unusedSectionVars false
set_option linter.unnecessarySimpa false
namespace Go.Proofs.YtcbidldebfibkaaGreatDoor
open Go Go.Sx Go.ChangeShapes Go.WideShapes Go.ChangeAt Go.RowKit
set_option maxRecDepth 100000
set_option linter.unusedVariables false
theorem mem_aj {a b : Bool} (h : a = true) (k : b = true) : (a && b) = true := by rw [h, k]; rfl
theorem mem_facts : joinedFacts Tryz.pinned.checked.prog 4 Tryz.f4 (Rows.OpenSpec.upto Rows.storeMemorySpec).bare Rows.storeMemoryUptoRow = true := by
  unfold joinedFacts
  exact mem_aj (mem_aj (mem_aj (mem_aj (mem_aj (mem_aj (mem_aj (mem_aj (mem_aj (mem_aj (mem_aj (mem_aj (mem_aj (mem_aj (mem_aj (mem_aj (mem_aj (mem_aj (mem_aj (mem_aj (mem_aj (mem_aj (mem_aj (mem_aj (mem_aj (mem_aj (mem_aj (mem_aj (mem_aj (mem_aj (mem_aj mq0 mq1) mq2) mq3) mq4) mq5) mq6) mq7) mq8) mq9) mq10) mq11) mq12) mq13) mq14) mq15) mq16) mq17) mq18) mq19) mq20) mq21) mq22) mq23) mq24) mq25) mq26) mq27) mq28) mq29) mq30) mq31
theorem mem_named : Tryz.pinned.checked.prog.funcNamed "concord/concordlaw27.StoreMemory" = some 4 := by kernel_rfl
theorem mem_looks : Tryz.pinned.checked.prog.looks [] = true := by kernel_rfl
theorem mem_want27 : Tryz.prog.wantsStandIn 27 = false := by kernel_rfl
theorem mem_said : Rows.StoreMemoryUptoSaid :=
  OpenClaim.holds_of_cond 4 Tryz.f4 rfl rfl rfl rfl rfl rfl rfl ⟨rfl, rfl, rfl, rfl, rfl⟩ rfl rfl rfl rfl rfl mem_named Tryz.func4 mem_facts
    (of_decide_eq_true (by kernel_rfl)) (by unfold Func.isWrapper; first | (rw [if_pos (by decide +kernel)]; kernel_rfl) | (rw [if_neg (by decide +kernel)]; exact ⟨rfl, rfl⟩))
    (fun os started H enc _ F => by rw [OpenClaim.pre_eq_preRow]; exact mem_lifted os started H enc F)
theorem mem_plain (f : FuncId) (fn : Func) (hf : Tryz.pinned.checked.prog.funcNamed "concord/concordlaw27.StoreMemory" = some f) (hfn : Tryz.pinned.checked.prog.funcs[f]? = some fn) :
    true = Tryz.pinned.checked.prog.looks [] ∧ ∀ (j : Nat) t, fn.params[j]? = some t → Tryz.pinned.checked.prog.wantsStandIn t = false := by
  obtain rfl : f = 4 := Option.some.inj (mem_named.symm.trans hf) |>.symm
  obtain rfl : fn = Tryz.f4 := (Option.some.inj (Tryz.func4.symm.trans hfn)).symm
  refine ⟨mem_looks.symm, fun j t ht => ?_⟩
  rw [Tryz.params4] at ht
  obtain rfl : t = 27 := by simpa using Array.mem_of_getElem? ht
  exact mem_want27
theorem storeMemory_holds : Rows.StoreMemoryUptoCardSaid :=
  Claim7.holds_tied_plain_at .later [] _ _ _ _ mem_said (fun _ h => by cases h) (by kernel_rfl) (fun _ h => by cases h) storeMemoryUpto_tied rfl ⟨rfl, rfl⟩ (by kernel_rfl) rfl mem_plain (by kernel_rfl)
end Go.Proofs.YtcbidldebfibkaaGreatDoor
