import Derived.Test.YtcbidldebfibkaaGreatDoorJ11
import Derived.Test.YtcbidldebfibkaaGreatDoorCards
import Derived.Test.YtcbidldebfibkaaGreatDoorW40
set_option linter.unusedVariables false
set_option linter.unusedSimpArgs false
set_option linter.unusedSectionVars false
set_option linter.unnecessarySimpa false
namespace Go.Proofs.YtcbidldebfibkaaGreatDoor
open Go Go.Sx Go.ChangeShapes Go.WideShapes Go.ChangeAt Go.RowKit
set_option maxRecDepth 100000
set_option linter.unusedVariables false
/-! ## StoreMemory: the row, the card -/
theorem mem_contract {H : Type} {enc : TypeId × Value → H} (W : World) (base : Nat) (args : Array Value) (ds gs : List (DataW H)) (before : List MemPlace)
    (hval : ∀ (j : Nat) t v, Tryz.f4.params[j]? = some t → args[j]? = some v → Value.okWide Tryz.prog W .any base t v)
    (hW : DataW.Whole enc Tryz.prog Tryz.f4.params.toList Rows.storeMemorySpec.vars false W args.toList ds gs before) (hk : Rows.uptoSmall H (ds ++ gs) = true) (hL : laidMetH Tryz.prog laidL W) :
    Calls Tryz.prog 4 args W fun e W' => ∃ v, e = .returned v ∧ Rows.storeMemorySpec.post enc Tryz.prog Tryz.f4 false true false false W args v W' := by
  have hW' := hW
  obtain ⟨p, q, hA0, hV, rfl, hfz, hnd⟩ := hW
  have hA : DataW.TrodAll enc Tryz.prog W 0 (fun _ => true) true Tryz.f4.params.toList args.toList ds p := hA0
  rw [Tryz.params4] at hA hval
  obtain ⟨v0, vs0, d0, ds0, p0, q0, hargs, rfl, rfl, h0, r0⟩ := trodAll_cons hA
  obtain ⟨rfl, rfl, rfl⟩ := trodAll_nil r0
  obtain rfl : args = #[v0] := by cases args; simp_all
  have hb := small_bulk hk
  have hd0 := bulk_part (d := d0) (l := [d0] ++ gs) (by simp)
  obtain ⟨sf, sp, n, fs, lp, ps, rfl, hSf, hSp, hP, b1, b2, b3, b4, b5⟩ := open_ix (.inr ⟨base, hval 0 27 v0 rfl rfl⟩) h0
  obtain ⟨g, hg, ht1, ht2⟩ := laid_facts hL
  haveI := glb_of hg
  haveI := sl_old hSf
  haveI := sl_old hSp
  have hsc := lawMem (G := baseOf W g) (H := [Old W]) (sf := sf) (sp := sp) (fs := fs) (lp := lp) (ps := ps) (n := n) hP (fun p hp => by obtain ⟨t1, t2, t3, t4⟩ := b5 p hp; exact ⟨t1, by omega, t3, by omega⟩) (by omega) (fun f hf => by have := b2 f hf; omega) (by omega) (by omega)
  refine (calls_old hsc).mono fun e W' ⟨he, hkept⟩ => ⟨_, he, ?_⟩
  exact post_old hW' rfl rfl (by
    obtain ⟨rfl, rfl⟩ := trodVars_none hV
    rfl) (by
    intro t ht
    rw [Tryz.params4] at ht
    have : t = 27 := by simpa using ht
    subst this; exact lt_types (by decide)) hkept

theorem mem_reads (os : Os) {H : Type} (enc : TypeId × Value → H) : DataW.whole enc Tryz.prog ((World.doorLaid Tryz.prog 2000 os).forCall (fun _ _ => 0) ⟨#[], #[.agg #[.slice none 0 0, .int .i64 0, .slice none 0 0]], []⟩).memory Tryz.f4.params.toList Rows.storeMemorySpec.vars false #[Value.agg #[.slice none 0 0, .int .i64 0, .slice none 0 0]].toList 8 = some ([.agg [.agg [.nil], .lit (.int .i64 0), .nil]], [], []) := by kernel_rfl
theorem mem_ok (os : Os) : Input.okWideB Tryz.prog ((World.doorLaid Tryz.prog 2000 os).forCall (fun _ _ => 0) ⟨#[], #[.agg #[.slice none 0 0, .int .i64 0, .slice none 0 0]], []⟩) 4 ⟨#[], #[.agg #[.slice none 0 0, .int .i64 0, .slice none 0 0]], []⟩ = true := by kernel_rfl
theorem mem_sized (os : Os) {H : Type} (enc : TypeId × Value → H) : (Rows.OpenSpec.upto Rows.storeMemorySpec).bare.sizedB enc Tryz.prog Tryz.f4 false ((World.doorLaid Tryz.prog 2000 os).forCall (fun _ _ => 0) ⟨#[], #[.agg #[.slice none 0 0, .int .i64 0, .slice none 0 0]], []⟩).memory #[.agg #[.slice none 0 0, .int .i64 0, .slice none 0 0]] 8 = true := by kernel_rfl

theorem mem_lifted (os : Os) (started : os.Started) (H : Type) (enc : TypeId × Value → H) (F : Stop.Interp) :
    ReturnsInHanded {} Tryz.checked os 4 .any ((Rows.OpenSpec.upto Rows.storeMemorySpec).preRow enc Tryz.prog Tryz.f4 Rows.storeMemoryUptoRow.domain false Rows.storeMemoryUptoRow.laid) (((Rows.OpenSpec.upto Rows.storeMemorySpec).at F).post enc Tryz.prog Tryz.f4 false true false false) := by
  refine returnsInHanded_of_row (C := Tryz.checked) (s := Rows.OpenSpec.upto Rows.storeMemorySpec) ownKnobless started (by kernel_rfl) Tryz.func4
    (witness_row_atRef (enc := enc) (C := Tryz.checked) false (World.doorLaid Tryz.prog 2000 os) #[.agg #[.slice none 0 0, .int .i64 0, .slice none 0 0]] rfl (doorVars os _) (doorRest os _) (mem_ok os)
      (OpenSpec.preRow_of_cond 8 (mem_reads os enc) (by kernel_rfl) (fun k hk => by cases hk; kernel_rfl) (mem_sized os enc) (doorMet os _))) ?_
  intro W base args ds gs before hval hW _ hcond _ hL _ _
  exact mem_contract W base args ds gs before hval hW (hcond _ rfl) hL
end Go.Proofs.YtcbidldebfibkaaGreatDoor
