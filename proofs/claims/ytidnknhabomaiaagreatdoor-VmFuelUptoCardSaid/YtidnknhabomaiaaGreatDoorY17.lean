/- VmFuel: the machine stops with the fuel error just where its fuel is less than its steps; walks of the program and the plain laws joined. -/
import Derived.Test.YtidnknhabomaiaaGreatDoorY16
import Derived.Test.YtidnknhabomaiaaGreatDoorYF0
import Derived.Test.YtidnknhabomaiaaGreatDoorYF1
import Derived.Test.YtidnknhabomaiaaGreatDoorYF2
set_option linter.unusedVariables false
set_option linter.unusedSimpArgs false
set_option linter.unusedSectionVars false
set_option linter.unnecessarySimpa false
set_option maxHeartbeats 0
namespace Go.Proofs.YtidnknhabomaiaaGreatDoor
open Go.Sx
open Go Go.Sx Go.ChangeShapes Go.WideShapes Go.ChangeAt Go.RowKit
set_option maxRecDepth 100000
theorem fo {a b:Bool}(h:a=true) (k:b=true):(a && b)=true:=by rw[h,k];rfl
theorem Ew:joinedFacts Tryz.pinned.checked.prog 3 Tryz.f3 (Rows.OpenSpec.upto Rows.vmFuelSpec).bare Rows.vmFuelUptoRow=true:=by
 unfold joinedFacts
 exact fo (fo (fo (fo (fo (fo (fo (fo (fo (fo (fo (fo (fo (fo (fo (fo (fo (fo (fo (fo (fo (fo (fo (fo (fo (fo (fo (fo (fo (fo (fo vk0 vk1) vk2) vk3) vk4) vk5) vk6) vk7) vk8) vk9) PM) PL) PK) PJ) PI) PH) PF) PE) PD) PC) PB) PA) Pz) Py) Px) Pw) Pv) Pu) Ps) Pr) Pq) Pp
theorem xz:Tryz.pinned.checked.prog.funcNamed "concord/concordlaw23.VmFuel" =some 3:=a8
theorem Eu:Tryz.pinned.checked.prog.looks []=true:=a8
theorem Ep:Tryz.prog.wantsStandIn 35=false:=a8
theorem Eo:Tryz.prog.wantsStandIn 3=false:=a8
theorem Ic:Rows.VmFuelUptoSaid:=
 OpenClaim.holds_of_cond 3 Tryz.f3 rfl rfl rfl rfl rfl rfl rfl ⟨rfl,rfl,rfl,rfl,rfl⟩ rfl rfl rfl rfl rfl xz Tryz.func3 Ew
  (Yt (a8)) (by unfold Func.isWrapper;first|(rw[if_pos (ay)];kernel_rfl)|(rw[if_neg (ay)];exact⟨rfl,rfl⟩))
  (fun os started H enc _ F=> by rw[OpenClaim.pre_eq_preRow];exact CJ os started H enc F)
theorem Et (f:FuncId) (fn:Func) (hf:Tryz.pinned.checked.prog.funcNamed "concord/concordlaw23.VmFuel" =some f) (hfn:Tryz.pinned.checked.prog.funcs[f]? =some fn):
 true=Tryz.pinned.checked.prog.looks []∧∀(j:Nat) t,fn.params[j]? =some t→Tryz.pinned.checked.prog.wantsStandIn t=false:=by
 obtain rfl:f=3:=Option.some.inj (xz.symm.trans hf) |>.symm
 obtain rfl:fn=Tryz.f3:=(Option.some.inj (Tryz.func3.symm.trans hfn)).symm
 refine⟨Eu.symm,fun j t ht=> ?_⟩
 rw[Tryz.params3]at ht
 have h9:t=35∨t=3:=by simpa using Array.mem_of_getElem? ht
 rcases h9 with rfl|rfl
 ·exact Ep
 ·exact Eo
theorem vmFuel_holds:Rows.VmFuelUptoCardSaid:=
 Claim7.holds_tied_plain_at .later [] _ _ _ _ Ic (fun _ h=> aW) (a8) (fun _ h=> aW) rS rfl ⟨rfl,rfl⟩ (a8) rfl Et (a8)
end Go.Proofs.YtidnknhabomaiaaGreatDoor
