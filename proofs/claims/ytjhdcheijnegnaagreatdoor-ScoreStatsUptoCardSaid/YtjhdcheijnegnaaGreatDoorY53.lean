import Derived.Test.YtjhdcheijnegnaaGreatDoorY51
set_option linter.all false
set_option maxHeartbeats 0
namespace Go.Proofs.YtjhdcheijnegnaaGreatDoor
open Go.Sx
open Go Go.ChangeShapes Go.WideShapes Go.ChangeAt Go.RowKit
set_option maxRecDepth 100000
theorem xk:Tryz.pinned.checked.prog.funcNamed "concord/concordlaw12.ScoreStats" =some 3:=aa
theorem Er:Tryz.pinned.checked.prog.looks []=true:=aa
theorem Ek:Tryz.prog.wantsStandIn 28=false:=aa
theorem Ep (f:FuncId) (b:Func) (hf:Tryz.pinned.checked.prog.funcNamed "concord/concordlaw12.ScoreStats" =some f) (a:Tryz.pinned.checked.prog.funcs[f]? =some b):
 true=Tryz.pinned.checked.prog.looks []∧∀(j:Nat) t,b.params[j]? =some t→Tryz.pinned.checked.prog.wantsStandIn t=false:=by
 obtain rfl:f=3:=Xo (xk.symm.trans hf) |>.symm;obtain rfl:b=Tryz.f3:=(Xo (Tryz.func3.symm.trans a)).symm;refine⟨Er.symm,λj t c=>?_⟩;rw[Tryz.params3]at c;obtain rfl:t=28:=by simpa using Array.mem_of_getElem? c
 exact Ek
end Go.Proofs.YtjhdcheijnegnaaGreatDoor
