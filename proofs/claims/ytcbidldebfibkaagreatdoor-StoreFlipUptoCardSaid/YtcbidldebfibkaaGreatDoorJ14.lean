import Derived.Test.YtcbidldebfibkaaGreatDoorJ12
set_option linter.unusedVariables false
set_option linter.unusedSimpArgs false
set_option linter.unusedSectionVars false
set_option linter.unnecessarySimpa false
namespace Go.Proofs.YtcbidldebfibkaaGreatDoor
open Go Go.Sx Go.ChangeShapes Go.WideShapes Go.ChangeAt Go.RowKit
set_option maxRecDepth 100000
set_option linter.unusedVariables false
/-! ## StoreFlip, StoreOneForm: the rows -/
theorem open_int {H : Type} {enc : TypeId × Value → H} {W : World} {v : Value} {d : DataW H} {p : List MemPlace} (hval : ∃ base, Value.okWide Tryz.prog W .any base 3 v) (h : DataW.Trod enc Tryz.prog W 0 (fun _ => true) true 3 v d p) :
    ∃ a : Int, v = .int .i64 a := by
  obtain ⟨fuel, hf⟩ := h
  obtain ⟨a, ha, _⟩ := rd_int fuel v.cells.toList (d, p) hf
  have ha2 : v.cells.toList = [.int .i64 a] := ha
  clear ha hf
  obtain ⟨base, hv⟩ := hval
  refine ⟨a, ?_⟩
  unfold Value.okWide at hv
  rw [Tryz.underlying3] at hv
  cases v <;> simp_all [Value.cells, Cell.okWide, Cell.ok, Tryz.underlying3]
theorem flip_contract {H : Type} {enc : TypeId × Value → H} (W : World) (base : Nat) (args : Array Value) (ds gs : List (DataW H)) (before : List MemPlace)
    (hval : ∀ (j : Nat) t v, Tryz.f5.params[j]? = some t → args[j]? = some v → Value.okWide Tryz.prog W .any base t v)
    (hW : DataW.Whole enc Tryz.prog Tryz.f5.params.toList Rows.storeFlipSpec.vars false W args.toList ds gs before) (hk : Rows.uptoSmall H (ds ++ gs) = true) (hL : laidMetH Tryz.prog laidL W) :
    Calls Tryz.prog 5 args W fun e W' => ∃ v, e = .returned v ∧ Rows.storeFlipSpec.post enc Tryz.prog Tryz.f5 false true false false W args v W' := by
  have hW' := hW
  obtain ⟨p, q, hA0, hV, rfl, hfz, hnd⟩ := hW
  have hA : DataW.TrodAll enc Tryz.prog W 0 (fun _ => true) true Tryz.f5.params.toList args.toList ds p := hA0
  rw [Tryz.params5] at hA hval
  obtain ⟨v0, vs0, d0, ds0, p0, q0, hargs, rfl, rfl, h0, r0⟩ := trodAll_cons hA
  obtain ⟨v1, vs1, d1, ds1, p1, q1, rfl, rfl, rfl, h1, r1⟩ := trodAll_cons r0
  obtain ⟨v2, vs2, d2, ds2, p2, q2, rfl, rfl, rfl, h2, r2⟩ := trodAll_cons r1
  obtain ⟨rfl, rfl, rfl⟩ := trodAll_nil r2
  obtain rfl : args = #[v0, v1, v2] := by cases args; simp_all
  have hb := small_bulk hk
  have hd0 := bulk_part (d := d0) (l := [d0, d1, d2] ++ gs) (by simp)
  obtain ⟨sf, sp, n, fs, lp, ps, rfl, hSf, hSp, hP, b1, b2, b3, b4, b5⟩ := open_ix (.inr ⟨base, hval 0 27 v0 rfl rfl⟩) h0
  obtain ⟨i, rfl⟩ := open_int ⟨base, hval 1 3 v1 rfl rfl⟩ h1
  obtain ⟨j, rfl⟩ := open_int ⟨base, hval 2 3 v2 rfl rfl⟩ h2
  obtain ⟨g, hg, ht1, ht2⟩ := laid_facts hL
  haveI := glb_of hg
  haveI := sl_old hSf
  haveI := sl_old hSp
  have hsc := lawFlip (G := baseOf W g) (H := [Old W]) (sf := sf) (sp := sp) (fs := fs) (lp := lp) (ps := ps) (n := n) (i := i) (j := j) hP (fun p hp => by obtain ⟨t1, t2, t3, t4⟩ := b5 p hp; exact ⟨t1, by omega, t3, by omega⟩) (by omega) (fun f hf => by have := b2 f hf; omega) (by omega) (by omega)
  refine (calls_old hsc).mono fun e W' ⟨he, hkept⟩ => ⟨_, he, ?_⟩
  exact post_old hW' rfl rfl (by
    obtain ⟨rfl, rfl⟩ := trodVars_none hV
    rfl) (by
    intro t ht
    rw [Tryz.params5] at ht
    have : t = 27 ∨ t = 3 := by simpa using ht
    rcases this with rfl | rfl
    · exact lt_types (by decide)
    · exact lt_types (by decide)) hkept
theorem flip_reads (os : Os) {H : Type} (enc : TypeId × Value → H) : DataW.whole enc Tryz.prog ((World.doorLaid Tryz.prog 2000 os).forCall (fun _ _ => 0) ⟨#[], #[.agg #[.slice none 0 0, .int .i64 0, .slice none 0 0], .int .i64 0, .int .i64 0], []⟩).memory Tryz.f5.params.toList Rows.storeFlipSpec.vars false #[Value.agg #[.slice none 0 0, .int .i64 0, .slice none 0 0], .int .i64 0, .int .i64 0].toList 8 = some ([.agg [.agg [.nil], .lit (.int .i64 0), .nil], .lit (.int .i64 0), .lit (.int .i64 0)], [], []) := by kernel_rfl
theorem flip_ok (os : Os) : Input.okWideB Tryz.prog ((World.doorLaid Tryz.prog 2000 os).forCall (fun _ _ => 0) ⟨#[], #[.agg #[.slice none 0 0, .int .i64 0, .slice none 0 0], .int .i64 0, .int .i64 0], []⟩) 5 ⟨#[], #[.agg #[.slice none 0 0, .int .i64 0, .slice none 0 0], .int .i64 0, .int .i64 0], []⟩ = true := by kernel_rfl
theorem flip_sized (os : Os) {H : Type} (enc : TypeId × Value → H) : (Rows.OpenSpec.upto Rows.storeFlipSpec).bare.sizedB enc Tryz.prog Tryz.f5 false ((World.doorLaid Tryz.prog 2000 os).forCall (fun _ _ => 0) ⟨#[], #[.agg #[.slice none 0 0, .int .i64 0, .slice none 0 0], .int .i64 0, .int .i64 0], []⟩).memory #[.agg #[.slice none 0 0, .int .i64 0, .slice none 0 0], .int .i64 0, .int .i64 0] 8 = true := by kernel_rfl
theorem flip_lifted (os : Os) (started : os.Started) (H : Type) (enc : TypeId × Value → H) (F : Stop.Interp) :
    ReturnsInHanded {} Tryz.checked os 5 .any ((Rows.OpenSpec.upto Rows.storeFlipSpec).preRow enc Tryz.prog Tryz.f5 Rows.storeFlipUptoRow.domain false Rows.storeFlipUptoRow.laid) (((Rows.OpenSpec.upto Rows.storeFlipSpec).at F).post enc Tryz.prog Tryz.f5 false true false false) := by
  refine returnsInHanded_of_row (C := Tryz.checked) (s := Rows.OpenSpec.upto Rows.storeFlipSpec) ownKnobless started (by kernel_rfl) Tryz.func5
    (witness_row_atRef (enc := enc) (C := Tryz.checked) false (World.doorLaid Tryz.prog 2000 os) #[.agg #[.slice none 0 0, .int .i64 0, .slice none 0 0], .int .i64 0, .int .i64 0] rfl (doorVars os _) (doorRest os _) (flip_ok os)
      (OpenSpec.preRow_of_cond 8 (flip_reads os enc) (by kernel_rfl) (fun k hk => by cases hk; kernel_rfl) (flip_sized os enc) (doorMet os _))) ?_
  intro W base args ds gs before hval hW _ hcond _ hL _ _
  exact flip_contract W base args ds gs before hval hW (hcond _ rfl) hL
end Go.Proofs.YtcbidldebfibkaaGreatDoor
