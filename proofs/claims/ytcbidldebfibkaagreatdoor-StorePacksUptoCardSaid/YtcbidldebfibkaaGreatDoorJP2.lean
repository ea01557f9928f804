import Derived.Test.YtcbidldebfibkaaGreatDoorJ1
set_option linter.unusedVariables false
set_option linter.unusedSimpArgs false
set_option linter.unusedSectionVars false
set_option linter.unnecessarySimpa false
namespace Go.Proofs.YtcbidldebfibkaaGreatDoor
open Go
set_option maxRecDepth 100000
theorem pk18 : ((Rows.OpenSpec.upto Rows.storePacksSpec).bare.vars.all (Tryz.pinned.checked.prog.varReadable ·)) = true := by kernel_rfl
theorem pk19 : (Tryz.f3.resultTypes.all (fun t => Tryz.pinned.checked.prog.readableRec t && decide (t < Tryz.pinned.checked.prog.types.size))) = true := by kernel_rfl
theorem pk20 : ((Rows.storePacksUptoRow.ifacesOut == Tryz.f3.resultTypes.toList.any (Tryz.pinned.checked.prog.ifacesRec ·))) = true := by kernel_rfl
theorem pk21 : ((Rows.storePacksUptoRow.loopsOut == Tryz.f3.resultTypes.toList.any (Tryz.pinned.checked.prog.loopsFrom ·))) = true := by kernel_rfl
theorem pk22 : ((Rows.storePacksUptoRow.plainKeys == Tryz.pinned.checked.prog.plainKeys)) = true := by kernel_rfl
theorem pk23 : (Rows.storePacksUptoRow.shortTexts.isNone) = true := by kernel_rfl
theorem pk24 : (Tryz.pinned.checked.prog.stopsHeard) = true := by kernel_rfl
theorem pk25 : (Tryz.pinned.checked.prog.mayEnter) = true := by kernel_rfl
theorem pk26 : ((Rows.storePacksUptoRow.lifted == Tryz.pinned.checked.prog.liftsFinal)) = true := by kernel_rfl
theorem pk27 : ((Tryz.pinned.checked.prog.make == some Rows.storePacksUptoRow.make)) = true := by kernel_rfl
theorem pk28 : ((Rows.storePacksUptoRow.kinds == (if Rows.storePacksUptoRow.domain.isEmpty then [] else Tryz.f3.params.toList.map fun t => match Tryz.pinned.checked.prog.underlying t with | some (.int k) => some k | _ => none))) = true := by kernel_rfl
theorem pk29 : ((Rows.storePacksUptoRow.pinned == Rows.storePacksUptoRow.pinnedBy)) = true := by kernel_rfl
theorem pk30 : ((Rows.storePacksUptoRow.veiled == (Tryz.f3.params.toList ++ (Rows.OpenSpec.upto Rows.storePacksSpec).bare.plain.varTypes Tryz.pinned.checked.prog ++ Tryz.f3.resultTypes.toList).any (Tryz.pinned.checked.prog.veiledRec ·))) = true := by kernel_rfl
theorem pk31 : (Rows.storePacksUptoRow.veiledFits Tryz.pinned.checked.prog Tryz.f3.params.toList (Tryz.f3.params.toList ++ (Rows.OpenSpec.upto Rows.storePacksSpec).bare.plain.varTypes Tryz.pinned.checked.prog ++ Tryz.f3.resultTypes.toList)) = true := by kernel_rfl
end Go.Proofs.YtcbidldebfibkaaGreatDoor
