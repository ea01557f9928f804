import Derived.Test.YtcbidldebfibkaaGreatDoorJ1
set_option linter.unusedVariables false
set_option linter.unusedSimpArgs false
set_option linter.unusedSectionVars false
set_option linter.unnecessarySimpa false
namespace Go.Proofs.YtcbidldebfibkaaGreatDoor
open Go
set_option maxRecDepth 100000
theorem ok1 : (laidOutB Tryz.pinned.checked.prog) = true := by kernel_rfl
theorem ok2 : (mapsRowed Tryz.pinned.checked.prog) = true := by kernel_rfl
theorem ok18 : ((Rows.OpenSpec.upto Rows.storeOneFormSpec).bare.vars.all (Tryz.pinned.checked.prog.varReadable ·)) = true := by kernel_rfl
theorem ok19 : (Tryz.f6.resultTypes.all (fun t => Tryz.pinned.checked.prog.readableRec t && decide (t < Tryz.pinned.checked.prog.types.size))) = true := by kernel_rfl
theorem ok20 : ((Rows.storeOneFormUptoRow.ifacesOut == Tryz.f6.resultTypes.toList.any (Tryz.pinned.checked.prog.ifacesRec ·))) = true := by kernel_rfl
theorem ok21 : ((Rows.storeOneFormUptoRow.loopsOut == Tryz.f6.resultTypes.toList.any (Tryz.pinned.checked.prog.loopsFrom ·))) = true := by kernel_rfl
theorem ok22 : ((Rows.storeOneFormUptoRow.plainKeys == Tryz.pinned.checked.prog.plainKeys)) = true := by kernel_rfl
theorem ok23 : (Rows.storeOneFormUptoRow.shortTexts.isNone) = true := by kernel_rfl
theorem ok24 : (Tryz.pinned.checked.prog.stopsHeard) = true := by kernel_rfl
theorem ok25 : (Tryz.pinned.checked.prog.mayEnter) = true := by kernel_rfl
theorem ok26 : ((Rows.storeOneFormUptoRow.lifted == Tryz.pinned.checked.prog.liftsFinal)) = true := by kernel_rfl
theorem ok27 : ((Tryz.pinned.checked.prog.make == some Rows.storeOneFormUptoRow.make)) = true := by kernel_rfl
theorem ok28 : ((Rows.storeOneFormUptoRow.kinds == (if Rows.storeOneFormUptoRow.domain.isEmpty then [] else Tryz.f6.params.toList.map fun t => match Tryz.pinned.checked.prog.underlying t with | some (.int k) => some k | _ => none))) = true := by kernel_rfl
theorem ok29 : ((Rows.storeOneFormUptoRow.pinned == Rows.storeOneFormUptoRow.pinnedBy)) = true := by kernel_rfl
theorem ok30 : ((Rows.storeOneFormUptoRow.veiled == (Tryz.f6.params.toList ++ (Rows.OpenSpec.upto Rows.storeOneFormSpec).bare.plain.varTypes Tryz.pinned.checked.prog ++ Tryz.f6.resultTypes.toList).any (Tryz.pinned.checked.prog.veiledRec ·))) = true := by kernel_rfl
theorem ok31 : (Rows.storeOneFormUptoRow.veiledFits Tryz.pinned.checked.prog Tryz.f6.params.toList (Tryz.f6.params.toList ++ (Rows.OpenSpec.upto Rows.storeOneFormSpec).bare.plain.varTypes Tryz.pinned.checked.prog ++ Tryz.f6.resultTypes.toList)) = true := by kernel_rfl
end Go.Proofs.YtcbidldebfibkaaGreatDoor
