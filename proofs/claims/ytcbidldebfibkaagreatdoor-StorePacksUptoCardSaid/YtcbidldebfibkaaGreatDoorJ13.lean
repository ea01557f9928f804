/- StorePacks, where what it reads is of bulk at most 1048576: for every index StorePacks returns true, and the input reads as it did. No further condition. -/
import Derived.Test.YtcbidldebfibkaaGreatDoorJ12
import Derived.Test.YtcbidldebfibkaaGreatDoorJP0
import Derived.Test.YtcbidldebfibkaaGreatDoorJP1
import Derived.Test.YtcbidldebfibkaaGreatDoorJP2
set_option linter.unusedVariables false
set_option linter.unusedSimpArgs false
set_option linter.unusedSectionVars false
set_option linter.unnecessarySimpa false
namespace Go.Proofs.YtcbidldebfibkaaGreatDoor
open Go Go.Sx Go.ChangeShapes Go.WideShapes Go.ChangeAt Go.RowKit
set_option maxRecDepth 100000
set_option linter.unusedVariables false
theorem aj {a b : Bool} (h : a = true) (k : b = true) : (a && b) = true := by rw [h, k]; rfl
theorem packs_facts : joinedFacts Tryz.pinned.checked.prog 3 Tryz.f3 (Rows.OpenSpec.upto Rows.storePacksSpec).bare Rows.storePacksUptoRow = true := by
  unfold joinedFacts
  exact aj (aj (aj (aj (aj (aj (aj (aj (aj (aj (aj (aj (aj (aj (aj (aj (aj (aj (aj (aj (aj (aj (aj (aj (aj (aj (aj (aj (aj (aj (aj pk0 pk1) pk2) pk3) pk4) pk5) pk6) pk7) pk8) pk9) pk10) pk11) pk12) pk13) pk14) pk15) pk16) pk17) pk18) pk19) pk20) pk21) pk22) pk23) pk24) pk25) pk26) pk27) pk28) pk29) pk30) pk31
theorem packs_named : Tryz.pinned.checked.prog.funcNamed "concord/concordlaw27.StorePacks" = some 3 := by kernel_rfl
theorem looksP : Tryz.pinned.checked.prog.looks [] = true := by kernel_rfl
theorem want27 : Tryz.prog.wantsStandIn 27 = false := by kernel_rfl
theorem packs_said : Rows.StorePacksUptoSaid :=
  OpenClaim.holds_of_cond 3 Tryz.f3 rfl rfl rfl rfl rfl rfl rfl ⟨rfl, rfl, rfl, rfl, rfl⟩ rfl rfl rfl rfl rfl packs_named Tryz.func3 packs_facts
    (of_decide_eq_true (by kernel_rfl)) (by unfold Func.isWrapper; first | (rw [if_pos (by decide +kernel)]; kernel_rfl) | (rw [if_neg (by decide +kernel)]; exact ⟨rfl, rfl⟩))
    (fun os started H enc _ F => by rw [OpenClaim.pre_eq_preRow]; exact packs_lifted os started H enc F)
theorem packs_plain (f : FuncId) (fn : Func) (hf : Tryz.pinned.checked.prog.funcNamed "concord/concordlaw27.StorePacks" = some f) (hfn : Tryz.pinned.checked.prog.funcs[f]? = some fn) :
    true = Tryz.pinned.checked.prog.looks [] ∧ ∀ (j : Nat) t, fn.params[j]? = some t → Tryz.pinned.checked.prog.wantsStandIn t = false := by
  obtain rfl : f = 3 := Option.some.inj (packs_named.symm.trans hf) |>.symm
  obtain rfl : fn = Tryz.f3 := (Option.some.inj (Tryz.func3.symm.trans hfn)).symm
  refine ⟨looksP.symm, fun j t ht => ?_⟩
  rw [Tryz.params3] at ht
  obtain rfl : t = 27 := by simpa using Array.mem_of_getElem? ht
  exact want27
theorem storePacks_holds : Rows.StorePacksUptoCardSaid :=
  Claim7.holds_tied_plain_at .later [] _ _ _ _ packs_said (fun _ h => by cases h) (by kernel_rfl) (fun _ h => by cases h) storePacksUpto_tied rfl ⟨rfl, rfl⟩ (by kernel_rfl) rfl packs_plain (by kernel_rfl)
end Go.Proofs.YtcbidldebfibkaaGreatDoor
