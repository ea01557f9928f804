/- StoreOneForm, where what it reads is of bulk at most 1048576: for every list of bytes StoreOneForm returns true, and the input reads as it did. No further condition. -/
import Derived.Test.YtcbidldebfibkaaGreatDoorJ16
import Derived.Test.YtcbidldebfibkaaGreatDoorJO0
import Derived.Test.YtcbidldebfibkaaGreatDoorJO1
import Derived.Test.YtcbidldebfibkaaGreatDoorJO2
set_option linter.unusedVariables false
set_option linter.unusedSimpArgs false
set_option linter.unusedSectionVars false
set_option linter.unnecessarySimpa false
namespace Go.Proofs.YtcbidldebfibkaaGreatDoor
open Go Go.Sx Go.ChangeShapes Go.WideShapes Go.ChangeAt Go.RowKit
set_option maxRecDepth 100000
set_option linter.unusedVariables false
theorem form_aj {a b : Bool} (h : a = true) (k : b = true) : (a && b) = true := by rw [h, k]; rfl
theorem form_facts : joinedFacts Tryz.pinned.checked.prog 6 Tryz.f6 (Rows.OpenSpec.upto Rows.storeOneFormSpec).bare Rows.storeOneFormUptoRow = true := by
  unfold joinedFacts
  exact form_aj (form_aj (form_aj (form_aj (form_aj (form_aj (form_aj (form_aj (form_aj (form_aj (form_aj (form_aj (form_aj (form_aj (form_aj (form_aj (form_aj (form_aj (form_aj (form_aj (form_aj (form_aj (form_aj (form_aj (form_aj (form_aj (form_aj (form_aj (form_aj (form_aj (form_aj ok0 ok1) ok2) ok3) ok4) ok5) ok6) ok7) ok8) ok9) ok10) ok11) ok12) ok13) ok14) ok15) ok16) ok17) ok18) ok19) ok20) ok21) ok22) ok23) ok24) ok25) ok26) ok27) ok28) ok29) ok30) ok31
theorem form_named : Tryz.pinned.checked.prog.funcNamed "concord/concordlaw27.StoreOneForm" = some 6 := by kernel_rfl
theorem form_looks : Tryz.pinned.checked.prog.looks [] = true := by kernel_rfl
theorem form_want29 : Tryz.prog.wantsStandIn 29 = false := by kernel_rfl
theorem form_said : Rows.StoreOneFormUptoSaid :=
  OpenClaim.holds_of_cond 6 Tryz.f6 rfl rfl rfl rfl rfl rfl rfl ⟨rfl, rfl, rfl, rfl, rfl⟩ rfl rfl rfl rfl rfl form_named Tryz.func6 form_facts
    (of_decide_eq_true (by kernel_rfl)) (by unfold Func.isWrapper; first | (rw [if_pos (by decide +kernel)]; kernel_rfl) | (rw [if_neg (by decide +kernel)]; exact ⟨rfl, rfl⟩))
    (fun os started H enc _ F => by rw [OpenClaim.pre_eq_preRow]; exact form_lifted os started H enc F)
theorem form_plain (f : FuncId) (fn : Func) (hf : Tryz.pinned.checked.prog.funcNamed "concord/concordlaw27.StoreOneForm" = some f) (hfn : Tryz.pinned.checked.prog.funcs[f]? = some fn) :
    true = Tryz.pinned.checked.prog.looks [] ∧ ∀ (j : Nat) t, fn.params[j]? = some t → Tryz.pinned.checked.prog.wantsStandIn t = false := by
  obtain rfl : f = 6 := Option.some.inj (form_named.symm.trans hf) |>.symm
  obtain rfl : fn = Tryz.f6 := (Option.some.inj (Tryz.func6.symm.trans hfn)).symm
  refine ⟨form_looks.symm, fun j t ht => ?_⟩
  rw [Tryz.params6] at ht
  obtain rfl : t = 29 := by simpa using Array.mem_of_getElem? ht
  exact form_want29
theorem storeOneForm_holds : Rows.StoreOneFormUptoCardSaid :=
  Claim7.holds_tied_plain_at .later [] _ _ _ _ form_said (fun _ h => by cases h) (by kernel_rfl) (fun _ h => by cases h) storeOneFormUpto_tied rfl ⟨rfl, rfl⟩ (by kernel_rfl) rfl form_plain (by kernel_rfl)
end Go.Proofs.YtcbidldebfibkaaGreatDoor
