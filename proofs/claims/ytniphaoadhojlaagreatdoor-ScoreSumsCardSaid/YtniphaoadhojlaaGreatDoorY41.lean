/- Proved: for all uint64 a, b, c the law concordlaw12.ScoreSums returns true, and its arguments read behind the call as before; the conditions are the row's own: the listed package variables (sentinels of api and strconv, tables of math/bits and internal/strconv, thresholds of math/big) hold at the beginning what the program's text lays, which the card ties; the variables that the row names and does not list (math/big.stackPool, math/big.natOne and others) are never read by the run. -/
import Derived.Test.YtniphaoadhojlaaGreatDoorY40
import Derived.Test.YtniphaoadhojlaaGreatDoorYQ0
import Derived.Test.YtniphaoadhojlaaGreatDoorYQ1
import Derived.Test.YtniphaoadhojlaaGreatDoorYQ2
set_option linter.all false
namespace Go.Proofs.YtniphaoadhojlaaGreatDoor
open Go Go.Sx Go.ChangeShapes Go.WideShapes Go.ChangeAt Go.RowKit
set_option maxRecDepth 100000
theorem ss_aj {a b : Bool} (h : a = true) (k : b = true) : (a && b) = true := by rw [h, k]; rfl
theorem ss_facts : joinedFacts Tryz.pinned.checked.prog 3 Tryz.f3 (OpenSpec.ofChange Rows.scoreSumsSpec).bare Rows.scoreSumsRow = true := by
  unfold joinedFacts
  exact ss_aj (ss_aj (ss_aj (ss_aj (ss_aj (ss_aj (ss_aj (ss_aj (ss_aj (ss_aj (ss_aj (ss_aj (ss_aj (ss_aj (ss_aj (ss_aj (ss_aj (ss_aj (ss_aj (ss_aj (ss_aj (ss_aj (ss_aj (ss_aj (ss_aj (ss_aj (ss_aj (ss_aj (ss_aj (ss_aj (ss_aj ssk0 ssk1) ssk2) ssk3) ssk4) ssk5) ssk6) ssk7) ssk8) ssk9) ssk10) ssk11) ssk12) ssk13) ssk14) ssk15) ssk16) ssk17) ssk18) ssk19) ssk20) ssk21) ssk22) ssk23) ssk24) ssk25) ssk26) ssk27) ssk28) ssk29) ssk30) ssk31
theorem ss_named : Tryz.pinned.checked.prog.funcNamed "concord/concordlaw12.ScoreSums" = some 3 := by kernel_rfl
theorem ss_looks : Tryz.pinned.checked.prog.looks [] = true := by kernel_rfl
theorem ss_want : Tryz.prog.wantsStandIn 22 = false := by kernel_rfl
theorem scoreSums_tied : Rows.scoreSumsRow.laidByTextAt .later Tryz.pinned kindsL true := OpenClaim.laidByTextAt_later rfl rfl tieL noOwnUnsafe
theorem ss_said : Rows.ScoreSumsSaid :=
  OpenClaim.holds_of_cond 3 Tryz.f3 rfl rfl rfl rfl rfl rfl rfl ⟨rfl, rfl, rfl, rfl, rfl⟩ rfl rfl rfl rfl rfl ss_named Tryz.func3 ss_facts
    (of_decide_eq_true (by kernel_rfl)) (by unfold Func.isWrapper; first | (rw [if_pos (by decide +kernel)]; kernel_rfl) | (rw [if_neg (by decide +kernel)]; exact ⟨rfl, rfl⟩))
    (fun os started H enc _ F => by rw [OpenClaim.pre_eq_preRow]; exact ss_lifted os started H enc F)
theorem ss_plain (f : FuncId) (fn : Func) (hf : Tryz.pinned.checked.prog.funcNamed "concord/concordlaw12.ScoreSums" = some f) (hfn : Tryz.pinned.checked.prog.funcs[f]? = some fn) :
    true = Tryz.pinned.checked.prog.looks [] ∧ ∀ (j : Nat) t, fn.params[j]? = some t → Tryz.pinned.checked.prog.wantsStandIn t = false := by
  obtain rfl : f = 3 := Option.some.inj (ss_named.symm.trans hf) |>.symm
  obtain rfl : fn = Tryz.f3 := (Option.some.inj (Tryz.func3.symm.trans hfn)).symm
  refine ⟨ss_looks.symm, fun j t ht => ?_⟩
  rw [Tryz.params3] at ht
  have h9 : t = 22 := by simpa using Array.mem_of_getElem? ht
  rcases h9 with rfl
  exact ss_want
theorem scoreSums_holds : Rows.ScoreSumsCardSaid :=
  Claim7.holds_tied_plain_at .later [] _ _ _ _ ss_said (fun _ h => by cases h) (by kernel_rfl) (fun _ h => by cases h) scoreSums_tied rfl ⟨rfl, rfl⟩ (by kernel_rfl) rfl ss_plain (by kernel_rfl)
end Go.Proofs.YtniphaoadhojlaaGreatDoor
