import Derived.Test.YtniphaoadhojlaaGreatDoorY8
import Derived.Test.YtniphaoadhojlaaGreatDoorY6
import Derived.ReadAgain
import Derived.ChangeBears
import Derived.ChangeReads
import Derived.WalkKit
import Derived.ProofKit
import Derived.OpenShut
import Derived.Deep.DeepHandedRow
import Derived.Deep.DeepWitnessRowRef
import Derived.Test.YtniphaoadhojlaaGreatDoorCards
import Derived.Test.YtniphaoadhojlaaGreatDoorW226
set_option linter.all false
namespace Go.Proofs.YtniphaoadhojlaaGreatDoor
open Go Go.Sx Go.ChangeShapes Go.WideShapes Go.ChangeAt Go.RowKit
set_option maxRecDepth 100000
/-! ## From a walk to the row -/
/-- All that lay there lies there as it did. -/
def OldKept (W W' : World) : Prop := W'.os = W.os ∧ W'.output = W.output ∧ ∀ (i : Nat) (o : Obj), W.heap[i]? = some o → W'.heap[i]? = some o
theorem calls_old {f : FuncId} {args : List Value} {W : World} {g : Nat → Nat × Nat} (h : SC (baseOf W g) Tryz.prog f args [Old W] (fun v H' => v = .bool true ∧ H' = [Old W])) :
    Calls Tryz.prog f args.toArray W fun e W' => e = .returned (.bool true) ∧ OldKept W W' :=
  (h.call W (old_sat (same_base W g))).mono fun e W' he => by
    cases e with
    | returned v =>
      obtain ⟨H', hs, rfl, rfl⟩ := he
      exact ⟨rfl, hs.1.os, hs.1.output, fun i o ho => old_back hs ho⟩
    | _ => exact he.elim
theorem OldKept.keptBut {W W' : World} (h : OldKept W W') (may : MemPlace → Prop) : W.keptBut W' may := by
  refine ⟨h.1, h.2.1, fun i hi => ?_⟩
  obtain ⟨o, ho⟩ : ∃ o, W.heap[i]? = some o := ⟨_, Array.getElem?_eq_getElem hi⟩
  rw [ho, h.2.2 i o ho]
  cases o with
  | cells c t fr => exact ⟨rfl, rfl, rfl, fun _ _ => rfl⟩
  | map es clock => exact Or.inr ⟨rfl, rfl⟩
  | _ => rfl
theorem OldKept.sameAt {W W' : World} (h : OldKept W W') {p : MemPlace} (hp : p.block < W.heap.size) : W.sameAt W' p := by
  obtain ⟨o, ho⟩ : ∃ o, W.heap[p.block]? = some o := ⟨_, Array.getElem?_eq_getElem hp⟩
  have h2 := h.2.2 _ _ ho
  cases p with
  | cell b off =>
    have e : W'.heap[b]? = W.heap[b]? := h2.trans ho.symm
    show W'.cell? ⟨b, off, none⟩ = W.cell? ⟨b, off, none⟩
    simp only [World.cell?, e]
  | map b => exact h2.trans ho.symm
section
variable {H : Type} {enc : TypeId × Value → H}
theorem trodAll_carry {P : Program} {W W' : World} {base : Nat} {sp : Nat → Bool} {held : Bool} : ∀ {ts : List TypeId} {vs : List Value} {ds : List (DataW H)} {ps : List MemPlace}, DataW.TrodAll enc P W base sp held ts vs ds ps → (∀ p ∈ ps, W.sameAt W' p) → DataW.TrodAll enc P W' base sp held ts vs ds ps
  | [], [], [], _, h, _ => h
  | _ :: _, _ :: _, _ :: _, _, ⟨p, q, ⟨n, h1⟩, h2, e⟩, hs => ⟨p, q, ⟨n, DataW.trod_carry n _ _ _ h1 fun x hx => hs x (by rw [e]; exact List.mem_append_left _ hx)⟩, trodAll_carry h2 fun x hx => hs x (by rw [e]; exact List.mem_append_right _ hx), e⟩
theorem laidOutP : laidOutB Tryz.prog = true := by kernel_rfl
theorem mapsRowedP : mapsRowed Tryz.prog = true := by kernel_rfl
theorem slicesFullP : ∀ t e, t < Tryz.prog.types.size → Tryz.prog.underlying t = some (.slice e) → 0 < Tryz.prog.cellsOf e := slices_full_of Tryz.prog (by kernel_rfl)
theorem post_old {f : Func} {s : ChangeSpec} {apart fresh handsOn : Bool} {W W' : World} {args : Array Value} {ds gs : List (DataW H)} {before : List MemPlace}
    (hW : DataW.Whole enc Tryz.prog f.params.toList s.vars apart W args.toList ds gs before) (hvars : s.vars = []) (hr : f.resultTypes = #[4])
    (hfn : s.fn H (ds ++ gs) = { results := [.lit (.bool true)], args := ds }) (hT : ∀ t ∈ f.params.toList, t < Tryz.prog.types.size) (hk : OldKept W W') :
    s.post enc Tryz.prog f apart fresh handsOn false W args (.bool true) W' := by
  have hlt := hW.lt
  have hW0 := hW
  obtain ⟨p, q, hA, hV, rfl, hfz, hnd⟩ := hW
  rw [hvars] at hV
  have hq : gs = [] ∧ q = [] := by
    cases gs with
    | nil => exact ⟨rfl, hV⟩
    | cons a b => exact hV.elim
  obtain ⟨rfl, rfl⟩ := hq
  rw [List.append_nil] at hlt hfn
  have hA' := trodAll_carry (W' := W') hA fun x hx => hk.sameAt (hlt x hx)
  refine ⟨ds, [], p ++ [], [], p, [], hW0, ?_, ?_, ?_, hk.keptBut _, fun h => by cases h⟩
  · rw [List.append_nil, hfn, hr]
    exact trodAll_cons_mk (shut_bool Tryz.underlying4 _) trodAll_mk0
  · rw [List.append_nil, hfn]
    exact DataW.TrodAll.respare (T := (· < Tryz.prog.types.size)) (kids_rows laidOutP mapsRowedP) slicesFullP hT hA' fun x hx => decide_eq_true (hlt x hx)
  · rw [hvars, List.append_nil, hfn]
    rfl
end
end Go.Proofs.YtniphaoadhojlaaGreatDoor
namespace Go.Proofs.YtniphaoadhojlaaGreatDoor
open Go Go.Sx Go.ChangeShapes Go.WideShapes Go.ChangeAt Go.RowKit
set_option maxRecDepth 100000
theorem u64_nat {a : Int} (h : (Lit.int .u64 a).wf = true) : ∃ n : Nat, a = (n : Int) ∧ n < 18446744073709551616 := by
  have h2 : 0 ≤ a ∧ a ≤ 18446744073709551615 := by simpa [Lit.wf, IntKind.min, IntKind.max, IntKind.signed, IntKind.bits] using h
  exact ⟨a.toNat, (Int.toNat_of_nonneg h2.1).symm, by omega⟩
theorem ss_contract {H : Type} {enc : TypeId × Value → H} (W : World) (base : Nat) (args : Array Value) (ds gs : List (DataW H)) (before : List MemPlace)
    (hval : ∀ (j : Nat) t v, Tryz.f3.params[j]? = some t → args[j]? = some v → Value.okWide Tryz.prog W .any base t v)
    (hW : DataW.Whole enc Tryz.prog Tryz.f3.params.toList Rows.scoreSumsSpec.vars false W args.toList ds gs before) (hL : laidMetH Tryz.prog laidL W) :
    Calls Tryz.prog 3 args W fun e W' => ∃ v, e = .returned v ∧ Rows.scoreSumsSpec.post enc Tryz.prog Tryz.f3 false true false false W args v W' := by
  have hW' := hW
  obtain ⟨p, q, hA0, hV, rfl, hfz, hnd⟩ := hW
  have hA : DataW.TrodAll enc Tryz.prog W 0 (fun _ => true) true Tryz.f3.params.toList args.toList ds p := hA0
  rw [Tryz.params3] at hA hval
  obtain ⟨v0, vs0, d0, ds0, p0, q0, hargs, rfl, rfl, h0, r0⟩ := trodAll_cons hA
  obtain ⟨v1, vs1, d1, ds1, p1, q1, rfl, rfl, rfl, h1, r1⟩ := trodAll_cons r0
  obtain ⟨v2, vs2, d2, ds2, p2, q2, rfl, rfl, rfl, h2, r2⟩ := trodAll_cons r1
  obtain ⟨rfl, rfl, rfl⟩ := trodAll_nil r2
  obtain rfl : args = #[v0, v1, v2] := by cases args; simp_all
  obtain ⟨a0, rfl, rfl, rfl, w0⟩ := open_int Tryz.underlying22 (hval 0 22 v0 rfl rfl) h0
  obtain ⟨a1, rfl, rfl, rfl, w1⟩ := open_int Tryz.underlying22 (hval 1 22 v1 rfl rfl) h1
  obtain ⟨a2, rfl, rfl, rfl, w2⟩ := open_int Tryz.underlying22 (hval 2 22 v2 rfl rfl) h2
  obtain ⟨n0, rfl, l0⟩ := u64_nat w0
  obtain ⟨n1, rfl, l1⟩ := u64_nat w1
  obtain ⟨n2, rfl, l2⟩ := u64_nat w2
  obtain ⟨f, hf, hbig⟩ := laid_facts hL
  haveI := glb_of hf
  haveI := hbig
  have hsc := lawSums (G := baseOf W f) (H := [Old W]) (a := n0) (b := n1) (c := n2) l0 l1 l2
  refine (calls_old hsc).mono fun e W' ⟨he, hkept⟩ => ⟨_, he, ?_⟩
  exact post_old hW' rfl rfl (by
    obtain ⟨rfl, rfl⟩ := trodVars_none hV
    rfl) (by
    intro t ht
    rw [Tryz.params3] at ht
    have : t = 22 := by simpa using ht
    rcases this with rfl
    exact of_decide_eq_true (by kernel_rfl)) hkept
def ss0 : Array Value := #[.int .u64 0, .int .u64 0, .int .u64 0]
theorem ss_reads (os : Os) {H : Type} (enc : TypeId × Value → H) : DataW.whole enc Tryz.prog ((World.doorLaid Tryz.prog 538 os).forCall (fun _ _ => 0) ⟨#[], ss0, []⟩).memory Tryz.f3.params.toList Rows.scoreSumsSpec.vars false ss0.toList 8 = some ([.lit (.int .u64 0), .lit (.int .u64 0), .lit (.int .u64 0)], [], []) := by kernel_rfl
theorem ss_ok (os : Os) : Input.okWideB Tryz.prog ((World.doorLaid Tryz.prog 538 os).forCall (fun _ _ => 0) ⟨#[], ss0, []⟩) 3 ⟨#[], ss0, []⟩ = true := by kernel_rfl
theorem ss_sized (os : Os) {H : Type} (enc : TypeId × Value → H) : (OpenSpec.ofChange Rows.scoreSumsSpec).bare.sizedB enc Tryz.prog Tryz.f3 false ((World.doorLaid Tryz.prog 538 os).forCall (fun _ _ => 0) ⟨#[], ss0, []⟩).memory ss0 8 = true := by kernel_rfl
theorem ss_lifted (os : Os) (started : os.Started) (H : Type) (enc : TypeId × Value → H) (F : Stop.Interp) :
    ReturnsInHanded {} Tryz.checked os 3 .any ((OpenSpec.ofChange Rows.scoreSumsSpec).preRow enc Tryz.prog Tryz.f3 Rows.scoreSumsRow.domain false Rows.scoreSumsRow.laid) (((OpenSpec.ofChange Rows.scoreSumsSpec).at F).post enc Tryz.prog Tryz.f3 false true false false) := by
  refine returnsInHanded_of_row (C := Tryz.checked) (s := OpenSpec.ofChange Rows.scoreSumsSpec) ownKnobless started (by kernel_rfl) Tryz.func3
    (witness_row_atRef (enc := enc) (C := Tryz.checked) false (World.doorLaid Tryz.prog 538 os) ss0 rfl (doorVars os _) (doorRest os _) (ss_ok os)
      (OpenSpec.preRow_of_cond 8 (ss_reads os enc) (by kernel_rfl) (fun k hk => by cases hk) (ss_sized os enc) (doorMet os _))) ?_
  intro W base args ds gs before hval hW _ hcond _ hL _ _
  exact ss_contract W base args ds gs before hval hW hL
end Go.Proofs.YtniphaoadhojlaaGreatDoor
