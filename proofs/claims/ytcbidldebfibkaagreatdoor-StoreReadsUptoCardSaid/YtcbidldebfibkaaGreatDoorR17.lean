/- StoreReads: for every list of bytes (where what is read is of bulk at most 1048576), Unpack and Load of the store answer as the document says: the index or ErrCorrupt, the engine or the first bad piece; the law returns true and the argument reads as it read before. Conditions: the laid variables of the row, tied to the text of the program. -/
import Derived.Test.YtcbidldebfibkaaGreatDoorR16
import Derived.Test.YtcbidldebfibkaaGreatDoorJR0
import Derived.Test.YtcbidldebfibkaaGreatDoorJR1
import Derived.Test.YtcbidldebfibkaaGreatDoorJR2
set_option linter.unusedVariables false
set_option linter.unusedSimpArgs false
set_option linter.unusedSectionVars false
set_option linter.unnecessarySimpa false
set_option maxHeartbeats 0
namespace Go.Proofs.YtcbidldebfibkaaGreatDoor
open Go.Sx
open Go Go.Sx Go.ChangeShapes Go.WideShapes Go.ChangeAt Go.RowKit
set_option maxRecDepth 100000
theorem ey {a b:Bool}(h:a=true) (k:b=true):(a && b)=true:=by rw[h,k];rfl
theorem Ct:joinedFacts Tryz.pinned.checked.prog 7 Tryz.f7 (Rows.OpenSpec.upto Rows.storeReadsSpec).bare Rows.storeReadsUptoRow=true:=by
 unfold joinedFacts
 exact ey (ey (ey (ey (ey (ey (ey (ey (ey (ey (ey (ey (ey (ey (ey (ey (ey (ey (ey (ey (ey (ey (ey (ey (ey (ey (ey (ey (ey (ey (ey rk0 rk1) rk2) rk3) rk4) rk5) rk6) rk7) rk8) rk9) Nl) Nk) Nj) Ni) Nh) Ng) Nf) Nd) Nc) Nb) Na) N9) N8) N7) N6) N5) N4) N3) N0) MZ) MY) MX
theorem vl:Tryz.pinned.checked.prog.funcNamed "concord/concordlaw27.StoreReads" =some 7:=aa
theorem Cs:Tryz.pinned.checked.prog.looks []=true:=aa
theorem zN:Tryz.prog.wantsStandIn 29=false:=aa
theorem E9:Rows.StoreReadsUptoSaid:=
 OpenClaim.holds_of_cond 7 Tryz.f7 rfl rfl rfl rfl rfl rfl rfl ⟨rfl,rfl,rfl,rfl,rfl⟩ rfl rfl rfl rfl rfl vl Tryz.func7 Ct
  (Yt (aa)) (by unfold Func.isWrapper;first|(rw[if_pos (an)];kernel_rfl)|(rw[if_neg (an)];exact⟨rfl,rfl⟩))
  (fun os started H enc _ F=> by rw[OpenClaim.pre_eq_preRow];exact zO os started H enc F)
theorem Cr (f:FuncId) (fn:Func) (hf:Tryz.pinned.checked.prog.funcNamed "concord/concordlaw27.StoreReads" =some f) (hfn:Tryz.pinned.checked.prog.funcs[f]? =some fn):
 true=Tryz.pinned.checked.prog.looks []∧∀(j:Nat) t,fn.params[j]? =some t→Tryz.pinned.checked.prog.wantsStandIn t=false:=by
 obtain rfl:f=7:=Option.some.inj (vl.symm.trans hf) |>.symm
 obtain rfl:fn=Tryz.f7:=(Option.some.inj (Tryz.func7.symm.trans hfn)).symm
 refine⟨Cs.symm,fun j t ht=> ?_⟩
 rw[Tryz.params7]at ht
 obtain rfl:t=29:=by simpa using Array.mem_of_getElem? ht
 exact zN
theorem storeReads_holds:Rows.StoreReadsUptoCardSaid:=
 Claim7.holds_tied_plain_at .later [] _ _ _ _ E9 (fun _ h=> bC) (aa) (fun _ h=> bC) oO rfl ⟨rfl,rfl⟩ (aa) rfl Cr (aa)
end Go.Proofs.YtcbidldebfibkaaGreatDoor
