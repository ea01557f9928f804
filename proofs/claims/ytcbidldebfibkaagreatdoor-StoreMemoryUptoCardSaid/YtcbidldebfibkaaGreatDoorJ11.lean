import Derived.Test.YtcbidldebfibkaaGreatDoorW33
import Derived.Test.YtcbidldebfibkaaGreatDoorJ1
import Derived.LaidLaws
import Derived.Lib.LaidTab
import Derived.Deep.Slices
import Derived.ChangeArms
import Derived.Test.YtcbidldebfibkaaGreatDoorJ4
import Derived.Test.YtcbidldebfibkaaGreatDoorJ5
import Derived.Test.YtcbidldebfibkaaGreatDoorJ6
import Derived.ReadAgain
import Derived.ChangeBears
import Derived.ChangeReads
import Derived.WalkKit
import Derived.ProofKit
import Derived.OpenShut
import Derived.Deep.DeepHandedRow
import Derived.Deep.DeepWitnessRowRef
set_option linter.unusedVariables false
set_option linter.unusedSimpArgs false
set_option linter.unusedSectionVars false
set_option linter.unnecessarySimpa false
namespace Go.Proofs.YtcbidldebfibkaaGreatDoor
open Go Go.Sx
set_option maxRecDepth 100000
set_option linter.unusedVariables false
/-! ## What the listed variables hold: the errors and the two tables -/
def errTexts : List (List UInt8) := [[99, 111, 110, 99, 111, 114, 100, 58, 32, 115, 99, 104, 101, 109, 97], [99, 111, 110, 99, 111, 114, 100, 58, 32, 114, 97, 110, 103, 101], [99, 111, 110, 99, 111, 114, 100, 58, 32, 116, 111, 111, 32, 115, 104, 111, 114, 116], [99, 111, 110, 99, 111, 114, 100, 58, 32, 118, 97, 114, 105, 110, 116], [99, 111, 110, 99, 111, 114, 100, 58, 32, 108, 105, 109, 105, 116], [99, 111, 110, 99, 111, 114, 100, 58, 32, 111, 114, 100, 101, 114], [99, 111, 110, 99, 111, 114, 100, 58, 32, 116, 97, 105, 108], [99, 111, 110, 99, 111, 114, 100, 58, 32, 116, 97, 103], [99, 111, 110, 99, 111, 114, 100, 58, 32, 115, 117, 109], [99, 111, 110, 99, 111, 114, 100, 58, 32, 115, 105, 122, 101], [99, 111, 110, 99, 111, 114, 100, 58, 32, 99, 111, 114, 114, 117, 112, 116], [99, 111, 110, 99, 111, 114, 100, 58, 32, 102, 105, 101, 108, 100], [99, 111, 110, 99, 111, 114, 100, 58, 32, 118, 97, 108, 117, 101], [99, 111, 110, 99, 111, 114, 100, 58, 32, 112, 97, 116, 116, 101, 114, 110], [99, 111, 110, 99, 111, 114, 100, 58, 32, 115, 116, 97, 116, 101, 115], [99, 111, 110, 99, 111, 114, 100, 58, 32, 115, 121, 110, 116, 97, 120], [99, 111, 110, 99, 111, 114, 100, 58, 32, 116, 111, 111, 32, 100, 101, 101, 112], [99, 111, 110, 99, 111, 114, 100, 58, 32, 110, 111, 100, 101], [99, 111, 110, 99, 111, 114, 100, 58, 32, 116, 111, 111, 32, 109, 97, 110, 121, 32, 116, 101, 114, 109, 115], [99, 111, 110, 99, 111, 114, 100, 58, 32, 115, 99, 111, 114, 101, 32, 111, 118, 101, 114, 102, 108, 111, 119], [99, 111, 110, 99, 111, 114, 100, 58, 32, 99, 111, 100, 101], [99, 111, 110, 99, 111, 114, 100, 58, 32, 102, 117, 101, 108], [99, 111, 110, 99, 111, 114, 100, 58, 32, 100, 111, 99, 117, 109, 101, 110, 116], [99, 111, 110, 99, 111, 114, 100, 58, 32, 99, 111, 109, 109, 97, 110, 100]]
def errText (i : Nat) : List UInt8 := errTexts.getD i []
theorem errText_inj : ∀ a b : Fin 24, errText a.val = errText b.val → a = b := by decide +kernel

theorem laid_get {P : Program} {W : World} : ∀ {l : List (String × DataW Unit)} {ps : List MemPlace}, DataW.LaidVars P W l ps → ∀ {n : String} {d : DataW Unit}, (n, d) ∈ l →
    ∃ g t cs fuel p, P.globalNamed n = some g ∧ (P.globals[g]?).map (·.type) = some t ∧ W.var? P n = some cs ∧ DataW.trod (fun _ => ()) P W 0 (fun _ => true) false fuel t cs.toList = some (d, p) ∧ (∀ x ∈ MemPlace.row ⟨g, 0, none⟩ cs.size, x ∈ ps) ∧ ∀ x ∈ p, x ∈ ps
  | [], _, _, n, d, hm => by cases hm
  | (n', d') :: r, ps, h, n, d, hm => by
    obtain ⟨g, t, cs, fuel, p, q, h1, h2, h3, h4, h5, rfl⟩ := h
    rcases List.mem_cons.1 hm with e | hm
    · cases e
      exact ⟨g, t, cs, fuel, p, h1, h2, h3, h4, fun x hx => by simp [hx], fun x hx => by simp [hx]⟩
    · obtain ⟨g', t', cs', fuel', p', k1, k2, k3, k4, k5, k6⟩ := laid_get h5 hm
      exact ⟨g', t', cs', fuel', p', k1, k2, k3, k4, fun x hx => List.mem_append_right _ (k5 x hx), fun x hx => List.mem_append_right _ (k6 x hx)⟩

def Cond (W : World) (ps : List MemPlace) : Prop := ∀ b off, MemPlace.cell b off ∈ ps → (∃ c t, W.heap[b]? = some (.cells c t (0, 0))) ∧ ∀ u v, W.cell? ⟨b, off, none⟩ = some (.iface u v) → Value.okWide Tryz.prog W .any 0 u v
/-- Variable i holds an error whose text is this. -/
def ErrAt (W : World) (i : Nat) (q : Nat × Nat) : Prop := ∃ E c t s, W.heap[i]? = some (.cells #[.iface 368 (.pointer (some ⟨q.1, q.2, none⟩))] E (0, 0)) ∧ W.heap[q.1]? = some (.cells c t (0, 0)) ∧ W.cell? ⟨q.1, q.2, none⟩ = some (.string s) ∧ s.data.toList = errText i

theorem starE : "*" ++ "errors.errorString" = "*errors.errorString" := by decide
theorem row368 (u : TypeId) (h : Tryz.prog.typeName? 3 u = some "*errors.errorString") : u = 368 :=
  typeName_ptr_named (nm := "errors.errorString") (by rw [starE]; kernel_rfl) (by kernel_rfl) (by decide) u (by rw [starE]; exact h)
theorem spot_none {W : World} {a : Addr} {v : Value} (h : W.cell? a = some v) : a = ⟨a.block, a.off, none⟩ := by
  obtain ⟨b, o, s⟩ := a
  cases s with
  | none => rfl
  | some x =>
    simp only [World.cell?, Option.isSome_some, if_true] at h
    split at h <;> cases h
theorem cells394 : Tryz.prog.cellsOf 394 = 1 := by kernel_rfl
theorem cells9 : Tryz.prog.cellsOf 9 = 1 := by kernel_rfl
theorem var_blk {P : Program} {W : World} {n : String} {g : Nat} {cs : Array Value} (hg : P.globalNamed n = some g) (h : W.var? P n = some cs) : ∃ E fz, W.heap[g]? = some (.cells cs E fz) := by
  simp only [World.var?, hg, Option.bind_some] at h
  split at h
  · rename_i cs' E fz he
    simp only [Option.some.injEq] at h
    subst h
    exact ⟨E, fz, he⟩
  · cases h
theorem sent_get {W : World} {l : List (String × DataW Unit)} {ps : List MemPlace} (hv : DataW.LaidVars Tryz.prog W l ps) (hc : Cond W ps) {n : String} {i : Nat} (hm : (n, .iface "*errors.errorString" (.ptr (.agg [.lit (.string (errText i))]))) ∈ l) (hg : Tryz.prog.globalNamed n = some i) (ht : (Tryz.prog.globals[i]?).map (·.type) = some 34) : ∃ q, ErrAt W i q := by
  obtain ⟨g, t, cs, fuel, p, h1, h2, h3, h4, h5, h6⟩ := laid_get hv hm
  obtain rfl := Option.some.inj (hg.symm.trans h1)
  obtain rfl := Option.some.inj (ht.symm.trans h2)
  obtain ⟨E, fz, hb⟩ := var_blk hg h3
  have hok : ∀ u v, cs.toList = [.iface u v] → Value.okWide Tryz.prog W .any 0 u v := by
    intro u v hcs
    have hsz : cs.size = 1 := by rw [← Array.length_toList, hcs]; rfl
    have hmem : MemPlace.cell i 0 ∈ ps := h5 _ (by rw [hsz]; simp [MemPlace.row])
    refine (hc i 0 hmem).2 u v ?_
    rw [World.var?_cell hg h3 0, ← Array.getElem?_toList, hcs]; rfl
  obtain ⟨a, s, hcs, hcell, htext, _, rfl⟩ := errorString_of_trod Tryz.underlying34 row368 Tryz.underlying368 Tryz.underlying394 rfl rfl Tryz.underlying9 cells394 cells9 h4 hok
  have hsz : cs.size = 1 := by rw [← Array.length_toList, hcs]; rfl
  obtain ⟨c0, t0, hc0⟩ := (hc i 0 (h5 _ (by rw [hsz]; simp [MemPlace.row]))).1
  obtain ⟨c1, t1, hc1⟩ := (hc a.block a.off (h6 _ (by simp [MemPlace.row]))).1
  have ha := spot_none hcell
  refine ⟨(a.block, a.off), t0, c1, t1, s, ?_, hc1, by rw [← ha]; exact hcell, htext⟩
  rw [hc0] at hb
  cases hb
  rw [hc0, ← ha]
  congr 2
  apply Array.ext'
  rw [hcs]
theorem gn0 : Tryz.prog.globalNamed "concord/api.ErrSchema" = some 0 := by kernel_rfl
theorem gn1 : Tryz.prog.globalNamed "concord/api.ErrRange" = some 1 := by kernel_rfl
theorem gn2 : Tryz.prog.globalNamed "concord/api.ErrShort" = some 2 := by kernel_rfl
theorem gn3 : Tryz.prog.globalNamed "concord/api.ErrVarint" = some 3 := by kernel_rfl
theorem gn4 : Tryz.prog.globalNamed "concord/api.ErrLimit" = some 4 := by kernel_rfl
theorem gn5 : Tryz.prog.globalNamed "concord/api.ErrOrder" = some 5 := by kernel_rfl
theorem gn6 : Tryz.prog.globalNamed "concord/api.ErrTail" = some 6 := by kernel_rfl
theorem gn7 : Tryz.prog.globalNamed "concord/api.ErrTag" = some 7 := by kernel_rfl
theorem gn8 : Tryz.prog.globalNamed "concord/api.ErrSum" = some 8 := by kernel_rfl
theorem gn9 : Tryz.prog.globalNamed "concord/api.ErrSize" = some 9 := by kernel_rfl
theorem gn10 : Tryz.prog.globalNamed "concord/api.ErrCorrupt" = some 10 := by kernel_rfl
theorem gn11 : Tryz.prog.globalNamed "concord/api.ErrField" = some 11 := by kernel_rfl
theorem gn12 : Tryz.prog.globalNamed "concord/api.ErrValue" = some 12 := by kernel_rfl
theorem gn13 : Tryz.prog.globalNamed "concord/api.ErrPattern" = some 13 := by kernel_rfl
theorem gn14 : Tryz.prog.globalNamed "concord/api.ErrStates" = some 14 := by kernel_rfl
theorem gn15 : Tryz.prog.globalNamed "concord/api.ErrSyntax" = some 15 := by kernel_rfl
theorem gn16 : Tryz.prog.globalNamed "concord/api.ErrDeep" = some 16 := by kernel_rfl
theorem gn17 : Tryz.prog.globalNamed "concord/api.ErrNode" = some 17 := by kernel_rfl
theorem gn18 : Tryz.prog.globalNamed "concord/api.ErrTerms" = some 18 := by kernel_rfl
theorem gn19 : Tryz.prog.globalNamed "concord/api.ErrScore" = some 19 := by kernel_rfl
theorem gn20 : Tryz.prog.globalNamed "concord/api.ErrCode" = some 20 := by kernel_rfl
theorem gn21 : Tryz.prog.globalNamed "concord/api.ErrFuel" = some 21 := by kernel_rfl
theorem gn22 : Tryz.prog.globalNamed "concord/api.ErrDoc" = some 22 := by kernel_rfl
theorem gn23 : Tryz.prog.globalNamed "concord/api.ErrCommand" = some 23 := by kernel_rfl
theorem gt24 : ∀ i : Fin 24, (Tryz.prog.globals[i.val]?).map (·.type) = some 34 := by
  have h : ((List.range 24).all fun i => decide ((Tryz.prog.globals[i]?).map (·.type) = some 34)) = true := by kernel_rfl
  intro i
  exact of_decide_eq_true (List.all_eq_true.1 h i.val (List.mem_range.2 i.isLt))
theorem allE {W : World} {ps : List MemPlace} (hv : DataW.LaidVars Tryz.prog W laidL ps) (hc : Cond W ps) : ∀ i, i < 24 → ∃ q, ErrAt W i q
  | 0, _ => sent_get hv hc (List.mem_of_getElem? (i := 0) rfl) gn0 (gt24 0)
  | 1, _ => sent_get hv hc (List.mem_of_getElem? (i := 1) rfl) gn1 (gt24 1)
  | 2, _ => sent_get hv hc (List.mem_of_getElem? (i := 7) rfl) gn2 (gt24 2)
  | 3, _ => sent_get hv hc (List.mem_of_getElem? (i := 10) rfl) gn3 (gt24 3)
  | 4, _ => sent_get hv hc (List.mem_of_getElem? (i := 11) rfl) gn4 (gt24 4)
  | 5, _ => sent_get hv hc (List.mem_of_getElem? (i := 2) rfl) gn5 (gt24 5)
  | 6, _ => sent_get hv hc (List.mem_of_getElem? (i := 9) rfl) gn6 (gt24 6)
  | 7, _ => sent_get hv hc (List.mem_of_getElem? (i := 3) rfl) gn7 (gt24 7)
  | 8, _ => sent_get hv hc (List.mem_of_getElem? (i := 8) rfl) gn8 (gt24 8)
  | 9, _ => sent_get hv hc (List.mem_of_getElem? (i := 12) rfl) gn9 (gt24 9)
  | 10, _ => sent_get hv hc (List.mem_of_getElem? (i := 6) rfl) gn10 (gt24 10)
  | 11, _ => sent_get hv hc (List.mem_of_getElem? (i := 13) rfl) gn11 (gt24 11)
  | 12, _ => sent_get hv hc (List.mem_of_getElem? (i := 14) rfl) gn12 (gt24 12)
  | 13, _ => sent_get hv hc (List.mem_of_getElem? (i := 15) rfl) gn13 (gt24 13)
  | 14, _ => sent_get hv hc (List.mem_of_getElem? (i := 16) rfl) gn14 (gt24 14)
  | 15, _ => sent_get hv hc (List.mem_of_getElem? (i := 17) rfl) gn15 (gt24 15)
  | 16, _ => sent_get hv hc (List.mem_of_getElem? (i := 18) rfl) gn16 (gt24 16)
  | 17, _ => sent_get hv hc (List.mem_of_getElem? (i := 19) rfl) gn17 (gt24 17)
  | 18, _ => sent_get hv hc (List.mem_of_getElem? (i := 20) rfl) gn18 (gt24 18)
  | 19, _ => sent_get hv hc (List.mem_of_getElem? (i := 21) rfl) gn19 (gt24 19)
  | 20, _ => sent_get hv hc (List.mem_of_getElem? (i := 22) rfl) gn20 (gt24 20)
  | 21, _ => sent_get hv hc (List.mem_of_getElem? (i := 23) rfl) gn21 (gt24 21)
  | 22, _ => sent_get hv hc (List.mem_of_getElem? (i := 24) rfl) gn22 (gt24 22)
  | 23, _ => sent_get hv hc (List.mem_of_getElem? (i := 25) rfl) gn23 (gt24 23)
  | n + 24, h => absurd h (by omega)
theorem gnZip : Tryz.prog.globalNamed "concord/frame.zipTable" = some 26 := by kernel_rfl
theorem gnSeal : Tryz.prog.globalNamed "concord/frame.sealTable" = some 24 := by kernel_rfl
theorem gtZip : (Tryz.prog.globals[26]?).map (·.type) = some 215 := by kernel_rfl
theorem gtSeal : (Tryz.prog.globals[24]?).map (·.type) = some 215 := by kernel_rfl
end Go.Proofs.YtcbidldebfibkaaGreatDoor
namespace Go.Proofs.YtcbidldebfibkaaGreatDoor
open Go Go.Sx
set_option maxRecDepth 100000
set_option linter.unusedVariables false
/-! ## The world at the call's beginning, as a symbolic heap -/
theorem cells146 : Tryz.prog.cellsOf 146 = 1 := by kernel_rfl
theorem cells215 : Tryz.prog.cellsOf 215 = 16 := by kernel_rfl
theorem tab_get {W : World} {l : List (String × DataW Unit)} {ps : List MemPlace} (hv : DataW.LaidVars Tryz.prog W l ps) (hc : Cond W ps) {n : String} {i : Nat} {zs : List Int} (hm : (n, Lib.tabData .u32 zs) ∈ l) (hg : Tryz.prog.globalNamed n = some i) (ht : (Tryz.prog.globals[i]?).map (·.type) = some 215) : ∃ E fz, W.heap[i]? = some (.cells (zs.map fun z => Value.int .u32 z).toArray E fz) := by
  obtain ⟨g, t, cs, fuel, p, h1, h2, h3, h4, h5, h6⟩ := laid_get hv hm
  obtain rfl := Option.some.inj (hg.symm.trans h1)
  obtain rfl := Option.some.inj (ht.symm.trans h2)
  obtain ⟨E, fz, hb⟩ := var_blk hg h3
  have := Lib.cells_of_tab Tryz.underlying215 Tryz.underlying146 cells146 cells215 h4
  refine ⟨E, fz, ?_⟩
  rw [hb, ← this]

def wfrag (W : World) : Frag := W.heap.toList.zipIdx.map fun p => (p.2, p.1)
theorem wfrag_mem {W : World} {i : Nat} {o : Obj} : (i, o) ∈ wfrag W ↔ W.heap[i]? = some o := by
  simp only [wfrag, List.mem_map, Prod.mk.injEq, Prod.exists]
  constructor
  · rintro ⟨o', j, hm, rfl, rfl⟩
    have := List.mem_zipIdx_iff_getElem?.1 hm
    simpa using this
  · intro h
    exact ⟨o, i, List.mem_zipIdx_iff_getElem?.2 (by simpa using h), rfl, rfl⟩
theorem wfrag_nodup (W : World) : ((wfrag W).map (·.1)).Nodup := by
  have : (wfrag W).map (·.1) = W.heap.toList.zipIdx.map (·.2) := by
    simp only [wfrag, List.map_map]; rfl
  rw [this, List.zipIdx_map_snd]
  exact List.nodup_range'
/-- All that lay there when the call began. -/
def Old (W : World) : Hp := fun L => L = wfrag W
theorem old_sat {G : Base} {W : World} (hS : Same G W) : Sat G W [Old W] :=
  ⟨hS, wfrag W, ⟨wfrag W, [], by simp, rfl, rfl⟩, wfrag_nodup W, fun x hx => wfrag_mem.1 hx⟩
theorem old_sep {W : World} {L : Frag} (h : Sep [Old W] L) : L = wfrag W := by
  obtain ⟨L1, L2, rfl, h1, h2⟩ := h
  have h1' : L1 = wfrag W := h1
  have h2' : L2 = [] := h2
  rw [h1', h2', List.append_nil]
theorem old_back {G : Base} {W W' : World} (h : Sat G W' [Old W]) {i : Nat} {o : Obj} (ho : W.heap[i]? = some o) : W'.heap[i]? = some o := by
  obtain ⟨_, L, hL, hl⟩ := h
  exact hl.at_ (i, o) (by rw [old_sep hL]; exact wfrag_mem.2 ho)

noncomputable def baseOf (W : World) (f : Nat → Nat × Nat) : Base :=
  { os := W.os, tape := W.tape, output := W.output, eT := 368, eb := fun i => if i < 24 then (f i).1 else W.heap.size + i, eo := fun i => if i < 24 then (f i).2 else 0 }
instance {W : World} {f : Nat → Nat × Nat} : ErrT (baseOf W f) := ⟨rfl⟩
theorem same_base (W : World) (f : Nat → Nat × Nat) : Same (baseOf W f) W := ⟨rfl, rfl, rfl⟩

theorem glb_of {W : World} {f : Nat → Nat × Nat} (hf : ∀ i, i < 24 → ErrAt W i (f i)) : Glb (baseOf W f) [Old W] where
  err := by
    intro i hi L hL
    obtain ⟨E, c, t, s, h1, _⟩ := hf i hi
    refine ⟨E, (0, 0), ?_⟩
    rw [old_sep hL]
    refine wfrag_mem.2 ?_
    rw [h1]
    simp only [Base.err, baseOf, hi, if_true]
  blk := by
    intro i hi L hL
    obtain ⟨E, c, t, s, _, h2, _⟩ := hf i hi
    refine ⟨c, t, ?_⟩
    rw [old_sep hL]
    refine wfrag_mem.2 ?_
    simp only [baseOf, hi, if_true]
    exact h2
  inj := by
    intro a b h1 h2
    have lt : ∀ i, i < 24 → (f i).1 < W.heap.size := fun i hi => by
      obtain ⟨E, c, t, s, _, h2, _⟩ := hf i hi
      exact (Array.getElem?_eq_some_iff.1 h2).1
    by_cases ha : a < 24 <;> by_cases hb : b < 24
    · simp only [baseOf, ha, hb, if_true] at h1 h2
      obtain ⟨_, _, _, s, _, _, q1, q2⟩ := hf a ha
      obtain ⟨_, _, _, s', _, _, q3, q4⟩ := hf b hb
      rw [h1, h2, q3] at q1
      have e : s' = s := by simpa using q1
      have := errText_inj ⟨a, ha⟩ ⟨b, hb⟩ (by rw [← q2, ← q4, e])
      simpa using this
    · simp only [baseOf, ha, hb, if_true, if_false] at h1
      have := lt a ha; omega
    · simp only [baseOf, ha, hb, if_true, if_false] at h1
      have := lt b hb; omega
    · simp only [baseOf, ha, hb, if_false] at h1
      omega
theorem tab_of {W : World} {i : Nat} {l : List Nat} (h : ∃ E fz, W.heap[i]? = some (.cells (l.map fun n => Value.int .u32 ((n : Nat) : Int)).toArray E fz)) : Tab [Old W] i l where
  out := by
    intro L hL
    obtain ⟨E, fz, h⟩ := h
    exact ⟨E, fz, by rw [old_sep hL]; exact wfrag_mem.2 h⟩

/-- What the row's list gives. -/
theorem laid_facts {W : World} (h : laidMetH Tryz.prog laidL W) : ∃ f : Nat → Nat × Nat, (∀ i, i < 24 → ErrAt W i (f i)) ∧ Tab [Old W] 26 zipT ∧ Tab [Old W] 24 sealT := by
  have hno : (laidL.filter fun x => x.2.handleName?.isSome) = [] := by kernel_rfl
  rw [laidMetH, hno] at h
  obtain ⟨ps, hv, _, hc⟩ := h
  obtain ⟨f, hf⟩ := Deep.choose_lt (α := Nat × Nat) (p := fun i q => ErrAt W i q) (allE hv hc)
  refine ⟨f, hf, tab_of ?_, tab_of ?_⟩
  · exact tab_get hv hc (zs := zipT.map fun n => ((n : Nat) : Int)) (List.mem_of_getElem? (i := 4) rfl) gnZip gtZip
  · exact tab_get hv hc (zs := sealT.map fun n => ((n : Nat) : Int)) (List.mem_of_getElem? (i := 5) rfl) gnSeal gtSeal
end Go.Proofs.YtcbidldebfibkaaGreatDoor
namespace Go.Proofs.YtcbidldebfibkaaGreatDoor
open Go Go.Sx
set_option maxRecDepth 100000
set_option linter.unusedVariables false
set_option linter.unusedSimpArgs false
/-! ## The arguments, opened -/
theorem bulk_pos {H : Type} (d : DataW H) : 1 ≤ Rows.uptoBulk d := by
  cases d with
  | lit l => cases l <;> simp [Rows.uptoBulk]
  | nil => simp [Rows.uptoBulk]
  | ptr d => simp [Rows.uptoBulk]
  | slice elems spare => simp [Rows.uptoBulk]
  | agg parts => simp [Rows.uptoBulk]
  | iface t d => simp [Rows.uptoBulk]
  | map entries => simp [Rows.uptoBulk]
  | held h => simp [Rows.uptoBulk]
theorem bulk_part {H : Type} {d : DataW H} {l : List (DataW H)} (h : d ∈ l) : Rows.uptoBulk d ≤ Rows.uptoBulkAll l := by
  induction l with
  | nil => cases h
  | cons x r ih =>
    simp only [Rows.uptoBulkAll]
    rcases List.mem_cons.1 h with e | e
    · subst e; omega
    · have := ih e; omega
theorem bulk_len {H : Type} (l : List (DataW H)) : l.length ≤ Rows.uptoBulkAll l := by
  induction l with
  | nil => simp [Rows.uptoBulkAll]
  | cons x r ih => have := bulk_pos x; simp only [Rows.uptoBulkAll, List.length_cons]; omega

theorem choose_list {α β γ : Type} {R : α → β → γ → Prop} : ∀ (l : List α) (m : List β), l.length = m.length → (∀ (i : Nat) (a : α) (b : β), l[i]? = some a → m[i]? = some b → ∃ c, R a b c) → ∃ r : List γ, r.length = l.length ∧ ∀ (i : Nat) (a : α) (b : β) (c : γ), l[i]? = some a → m[i]? = some b → r[i]? = some c → R a b c
  | [], [], _, _ => ⟨[], rfl, fun i a b c h => by simp at h⟩
  | [], _ :: _, h, _ => by simp at h
  | _ :: _, [], h, _ => by simp at h
  | a :: l, b :: m, h, hR => by
    obtain ⟨c, hc⟩ := hR 0 a b rfl rfl
    obtain ⟨r, h1, h2⟩ := choose_list l m (by simpa using h) (fun i a b ha hb => hR (i + 1) a b (by simpa using ha) (by simpa using hb))
    refine ⟨c :: r, by simp [h1], fun i a' b' c' ha hb hc' => ?_⟩
    cases i with
    | zero => simp at ha hb hc'; subst ha; subst hb; subst hc'; exact hc
    | succ i => exact h2 i a' b' c' (by simpa using ha) (by simpa using hb) (by simpa using hc')

section
variable {H : Type} {enc : TypeId × Value → H} {W : World}
/-- A slice, opened: its row among what lay there. -/
theorem sl_open {α : Type} (e : Enc α) {Q : α → DataW H → Prop} {t el : TypeId} {fuel : Nat} {cs : List Value} {x : DataW H × List MemPlace} (ht : Tryz.prog.underlying t = some (.slice el)) (hc : Tryz.prog.cellsOf el = e.sz)
    (hrd : ∀ (n : Nat) (cs' : List Value) (y : DataW H × List MemPlace), DataW.trod enc Tryz.prog W 0 (fun _ => true) true n el cs' = some y → ∃ a : α, cs' = e.f a ∧ Q a y.1)
    (h : DataW.trod enc Tryz.prog W 0 (fun _ => true) true fuel t cs = some x) :
    ∃ (s : SV) (xs : List α), cs = [s.val] ∧ SlL s e xs (wfrag W) ∧ xs.length + 1 ≤ Rows.uptoBulk x.1 ∧ (xs = [] ∨ ∃ ds sp, x.1 = .slice ds sp ∧ ds.length = xs.length ∧ ∀ (i : Nat) (a : α) (d : DataW H), xs[i]? = some a → ds[i]? = some d → Q a d) := by
  rcases Deep.open_slice ht h with ⟨rfl, rfl⟩ | ⟨a, len, cap, m, n, D, Pl, rfl, _, hl, hm, hmm, rfl, hx⟩
  · exact ⟨SV.nil, [], rfl, ⟨rfl, Nat.le_refl _, .inl ⟨rfl, rfl⟩⟩, by simp [Rows.uptoBulk], .inl rfl⟩
  · simp only [if_true] at hmm
    subst hmm
    rw [hc] at hx
    have hbulk : ∀ k, k = len → k + 1 ≤ Rows.uptoBulk (DataW.slice ((List.range len).map D) ((List.range (m - len)).map fun j => D (len + j))) := by
      intro k hk
      have := bulk_len ((List.range len).map D)
      simp only [List.length_map, List.length_range] at this
      simp only [Rows.uptoBulk]; omega
    by_cases h0 : m = 0
    · subst h0
      obtain rfl : len = 0 := by omega
      exact ⟨⟨some a, 0, 0⟩, [], rfl, ⟨rfl, Nat.le_refl _, .inl ⟨rfl, rfl⟩⟩, hbulk 0 rfl, .inl rfl⟩
    · have hel : ∀ i, i < m → ∃ y : α, W.cells? 0 (a.add (i * e.sz)) e.sz = some (e.f y) ∧ Q y (D i) := by
        intro i hi
        obtain ⟨cs', h1, h2⟩ := hx i hi
        obtain ⟨y, rfl, hq⟩ := hrd n cs' _ h2
        exact ⟨y, h1, hq⟩
      obtain ⟨y0, hy0, _⟩ := hel 0 (by omega)
      haveI : Inhabited α := ⟨y0⟩
      obtain ⟨f, hf⟩ := Deep.choose_lt hel
      have hcell : ∀ i, i < m → ∀ k, k < e.sz → W.cell? (a.add (i * e.sz + k)) = (e.f (f i))[k]? := by
        intro i hi k hk
        have := (World.cells?_some (hf i hi).1).2.2 k hk
        rw [Deep.add_add] at this
        exact this
      have hpos := e.pos
      have hsome : ∀ i, i < m → ∀ k, k < e.sz → ∃ v, (e.f (f i))[k]? = some v := fun i hi k hk => ⟨_, List.getElem?_eq_getElem (by rw [e.len]; exact hk)⟩
      obtain ⟨v0, hv0⟩ := hsome 0 (by omega) 0 hpos
      have hc0 := hcell 0 (by omega) 0 hpos
      rw [hv0, Nat.zero_mul, Nat.zero_add, show a.add 0 = a by simp [Addr.add]] at hc0
      have ha := spot_none hc0
      obtain ⟨b, off, sp⟩ := a
      simp only [Addr.mk.injEq, true_and] at ha
      subst ha
      have hblk : ∃ C E fz, W.heap[b]? = some (.cells C E fz) := by
        simp only [World.cell?] at hc0
        split at hc0
        · rename_i C E fz he; exact ⟨C, E, fz, he⟩
        · cases hc0
      obtain ⟨C, E, fz, hb⟩ := hblk
      have hC : ∀ i, i < m → ∀ k, k < e.sz → C[off + (i * e.sz + k)]? = (e.f (f i))[k]? := by
        intro i hi k hk
        rw [← hcell i hi k hk, add_none, cell_of hb]
      have hsz : off + m * e.sz ≤ C.size := by
        obtain ⟨v, hv⟩ := hsome (m - 1) (by omega) (e.sz - 1) (by omega)
        have h1 := hC (m - 1) (by omega) (e.sz - 1) (by omega)
        rw [hv] at h1
        have h2 := (Array.getElem?_eq_some_iff.1 h1).1
        have h3 : (m - 1) * e.sz + e.sz = m * e.sz := by
          rw [show (m - 1) * e.sz + e.sz = (m - 1 + 1) * e.sz by rw [Nat.add_mul]; omega]
          congr 1; omega
        omega
      refine ⟨⟨some ⟨b, off, none⟩, len, m⟩, (List.range len).map f, rfl, ⟨by simp, hl, .inr ⟨b, off, C, E, fz, rfl, wfrag_mem.2 hb, hsz, ?_⟩⟩, hbulk _ (by simp), .inr ⟨_, _, rfl, by simp, ?_⟩⟩
      · intro j v hv
        have hj : j < len * e.sz := by
          have := (List.getElem?_eq_some_iff.1 hv).1
          rw [e.all_length] at this
          simpa using this
        have hi : j / e.sz < len := (Nat.div_lt_iff_lt_mul hpos).2 hj
        have hk : j % e.sz < e.sz := Nat.mod_lt _ hpos
        have hd : j = j / e.sz * e.sz + j % e.sz := by
          have := Nat.div_add_mod j e.sz
          rw [Nat.mul_comm] at this; omega
        have h1 := e.all_get ((List.range len).map f) (j / e.sz) (j % e.sz) (f (j / e.sz)) (by simp [hi]) hk
        rw [← hd, hv] at h1
        rw [hd, hC _ (by omega) _ hk, ← h1]
      · intro i y d hy hd
        have hi : i < len := by
          have := (List.getElem?_eq_some_iff.1 hy).1
          simpa using this
        simp [hi] at hy hd
        subst hy; subst hd
        exact (hf i (by omega)).2
end
end Go.Proofs.YtcbidldebfibkaaGreatDoor
namespace Go.Proofs.YtcbidldebfibkaaGreatDoor
open Go Go.Sx
set_option maxRecDepth 100000
set_option linter.unusedVariables false
set_option linter.unusedSimpArgs false
theorem cells5 : Tryz.prog.cellsOf 5 = 1 := by kernel_rfl
theorem cells3 : Tryz.prog.cellsOf 3 = 1 := by kernel_rfl
theorem cells4 : Tryz.prog.cellsOf 4 = 1 := by kernel_rfl
theorem cells59 : Tryz.prog.cellsOf 59 = 5 := by kernel_rfl
theorem cells49 : Tryz.prog.cellsOf 49 = 2 := by kernel_rfl
theorem cells29 : Tryz.prog.cellsOf 29 = 1 := by kernel_rfl
theorem cells47 : Tryz.prog.cellsOf 47 = 1 := by kernel_rfl
theorem cells22 : Tryz.prog.cellsOf 22 = 1 := by kernel_rfl
theorem cells24 : Tryz.prog.cellsOf 24 = 1 := by kernel_rfl
theorem cells25 : Tryz.prog.cellsOf 25 = 1 := by kernel_rfl
theorem cells27 : Tryz.prog.cellsOf 27 = 3 := by kernel_rfl
section
variable {H : Type} {enc : TypeId × Value → H} {W : World}
theorem rd_byte (n : Nat) (cs : List Value) (y : DataW H × List MemPlace) (h : DataW.trod enc Tryz.prog W 0 (fun _ => true) true n 5 cs = some y) : ∃ a : Nat, cs = eB.f a ∧ a < 256 := by
  obtain ⟨k, rfl, _, hw⟩ := DataW.trod_int Tryz.underlying5 h
  have : 0 ≤ k ∧ k ≤ 255 := by simpa [Lit.wf, IntKind.min, IntKind.max, IntKind.signed, IntKind.bits] using hw
  refine ⟨k.toNat, ?_, by omega⟩
  show [Value.int .u8 k] = [Value.int .u8 ((k.toNat : Nat) : Int)]
  rw [Int.toNat_of_nonneg this.1]
theorem rd_int (n : Nat) (cs : List Value) (y : DataW H × List MemPlace) (h : DataW.trod enc Tryz.prog W 0 (fun _ => true) true n 3 cs = some y) : ∃ a : Int, cs = eI.f a ∧ a ≤ 9223372036854775807 := by
  obtain ⟨k, rfl, _, hw⟩ := DataW.trod_int Tryz.underlying3 h
  have : -9223372036854775808 ≤ k ∧ k ≤ 9223372036854775807 := by simpa [Lit.wf, IntKind.min, IntKind.max, IntKind.signed, IntKind.bits] using hw
  exact ⟨k, rfl, this.2⟩
theorem rd_field (n : Nat) (cs : List Value) (y : DataW H × List MemPlace) (h : DataW.trod enc Tryz.prog W 0 (fun _ => true) true n 59 cs = some y) : ∃ a : FV, cs = eF.f a ∧ a.name.size ≤ Rows.uptoBulk y.1 := by
  obtain ⟨xs, m, _, rfl, hl, hxl, hf⟩ := DataW.trod_struct Tryz.underlying59 h
  rw [cells59] at hl
  match cs, hl with
  | [c0, c1, c2, c3, c4], _ =>
    have g0 : DataW.trod enc Tryz.prog W 0 (fun _ => true) true m 9 (([c0, c1, c2, c3, c4].drop 0).take (Tryz.prog.cellsOf 9)) = xs[0]? := hf 0 _ rfl
    rw [cells9] at g0
    have g1 : DataW.trod enc Tryz.prog W 0 (fun _ => true) true m 3 (([c0, c1, c2, c3, c4].drop 1).take (Tryz.prog.cellsOf 3)) = xs[1]? := hf 1 _ rfl
    rw [cells3] at g1
    have g2 : DataW.trod enc Tryz.prog W 0 (fun _ => true) true m 4 (([c0, c1, c2, c3, c4].drop 2).take (Tryz.prog.cellsOf 4)) = xs[2]? := hf 2 _ rfl
    rw [cells4] at g2
    have g3 : DataW.trod enc Tryz.prog W 0 (fun _ => true) true m 4 (([c0, c1, c2, c3, c4].drop 3).take (Tryz.prog.cellsOf 4)) = xs[3]? := hf 3 _ rfl
    rw [cells4] at g3
    have g4 : DataW.trod enc Tryz.prog W 0 (fun _ => true) true m 4 (([c0, c1, c2, c3, c4].drop 4).take (Tryz.prog.cellsOf 4)) = xs[4]? := hf 4 _ rfl
    rw [cells4] at g4
    match xs, hxl with
    | [x0, x1, x2, x3, x4], _ =>
      obtain ⟨s, h0, e0, _⟩ := DataW.trod_string Tryz.underlying9 (show _ = some x0 from g0)
      obtain ⟨k, h1, _, _⟩ := DataW.trod_int Tryz.underlying3 (show _ = some x1 from g1)
      obtain ⟨b2, h2, _⟩ := DataW.trod_bool Tryz.underlying4 (show _ = some x2 from g2)
      obtain ⟨b3, h3, _⟩ := DataW.trod_bool Tryz.underlying4 (show _ = some x3 from g3)
      obtain ⟨b4, h4, _⟩ := DataW.trod_bool Tryz.underlying4 (show _ = some x4 from g4)
      simp at h0 h1 h2 h3 h4
      subst h0; subst h1; subst h2; subst h3; subst h4
      refine ⟨⟨s, k, b2, b3, b4⟩, rfl, ?_⟩
      subst e0
      simp only [List.map_cons, List.map_nil, Rows.uptoBulk, Rows.uptoBulkAll]
      have h5 : s.data.toList.length = s.size := by simp
      omega
/-- What a piece's reading says. -/
def PcQ (W : World) (a : SV × SV) (d : DataW H) (q : List Nat × List Int) : Prop := SlL a.1 eB q.1 (wfrag W) ∧ SlL a.2 eI q.2 (wfrag W) ∧ (∀ x ∈ q.1, x < 256) ∧ (∀ x ∈ q.2, x ≤ 9223372036854775807) ∧ q.1.length + q.2.length + 1 ≤ Rows.uptoBulk d
theorem all_of {α : Type} {xs : List α} {β : Type} {g : DataW β} {Q : α → Prop} (h : xs = [] ∨ ∃ (ds sp : List (DataW β)), g = .slice ds sp ∧ ds.length = xs.length ∧ ∀ (i : Nat) (a : α) (d : DataW β), xs[i]? = some a → ds[i]? = some d → Q a) : ∀ x ∈ xs, Q x := by
  rcases h with rfl | ⟨ds, sp, _, hl, hq⟩
  · intro x hx; cases hx
  · intro x hx
    obtain ⟨i, hi⟩ := List.mem_iff_getElem?.1 hx
    have := (List.getElem?_eq_some_iff.1 hi).1
    exact hq i x _ hi (List.getElem?_eq_getElem (by omega))
theorem rd_piece (n : Nat) (cs : List Value) (y : DataW H × List MemPlace) (h : DataW.trod enc Tryz.prog W 0 (fun _ => true) true n 49 cs = some y) : ∃ a : SV × SV, cs = eP.f a ∧ ∃ q, PcQ W a y.1 q := by
  obtain ⟨xs, m, _, rfl, hl, hxl, hf⟩ := DataW.trod_struct Tryz.underlying49 h
  rw [cells49] at hl
  match cs, hl with
  | [c0, c1], _ =>
    have g0 : DataW.trod enc Tryz.prog W 0 (fun _ => true) true m 29 (([c0, c1].drop 0).take (Tryz.prog.cellsOf 29)) = xs[0]? := hf 0 _ rfl
    rw [cells29] at g0
    have g1 : DataW.trod enc Tryz.prog W 0 (fun _ => true) true m 47 (([c0, c1].drop 1).take (Tryz.prog.cellsOf 47)) = xs[1]? := hf 1 _ rfl
    rw [cells47] at g1
    match xs, hxl with
    | [x0, x1], _ =>
      obtain ⟨s0, l0, h0, a0, b0, r0⟩ := sl_open eB (Q := fun a _ => a < 256) Tryz.underlying29 cells5 (fun n cs y h => rd_byte n cs y h) (show _ = some x0 from g0)
      obtain ⟨s1, l1, h1, a1, b1, r1⟩ := sl_open eI (Q := fun a _ => a ≤ 9223372036854775807) Tryz.underlying47 cells3 (fun n cs y h => rd_int n cs y h) (show _ = some x1 from g1)
      simp at h0 h1
      subst h0; subst h1
      refine ⟨(s0, s1), rfl, (l0, l1), a0, a1, all_of r0, all_of r1, ?_⟩
      simp only [List.map_cons, List.map_nil, Rows.uptoBulk, Rows.uptoBulkAll]
      omega
theorem psLen_le : ∀ (ds : List (DataW H)) (ps : Pcs), ps.length = ds.length → (∀ (i : Nat) (q : List Nat × List Int) (d : DataW H), ps[i]? = some q → ds[i]? = some d → q.1.length + q.2.length + 1 ≤ Rows.uptoBulk d) → psLen ps ≤ 110 * Rows.uptoBulkAll ds ∧ ∀ p ∈ ps, p.1.length ≤ Rows.uptoBulkAll ds ∧ p.2.length ≤ Rows.uptoBulkAll ds
  | [], [], _, _ => ⟨by simp [psLen], fun p hp => by cases hp⟩
  | [], _ :: _, h, _ => by simp at h
  | _ :: _, [], h, _ => by simp at h
  | d :: ds, p :: ps, h, hq => by
    obtain ⟨h1, h2⟩ := psLen_le ds ps (by simpa using h) (fun i q d h3 h4 => hq (i + 1) q d (by simpa using h3) (by simpa using h4))
    have h0 := hq 0 p d rfl rfl
    refine ⟨?_, ?_⟩
    · rw [psLen, List.map_cons, List.sum_cons, ← psLen]
      simp only [Rows.uptoBulkAll]
      omega
    · intro p' hp'
      simp only [Rows.uptoBulkAll]
      rcases List.mem_cons.1 hp' with rfl | hp'
      · omega
      · have := h2 p' hp'; omega
theorem sl_old {s : SV} {α : Type} {e : Enc α} {xs : List α} (h : SlL s e xs (wfrag W)) : Sl [Old W] s e xs := ⟨fun L hL => by rw [old_sep hL]; exact h⟩

/-- An index, opened. -/
theorem open_ix {v : Value} {d : DataW H} {p : List MemPlace} (hval : Value.okWide Tryz.prog W .any 0 27 v ∨ ∃ base, Value.okWide Tryz.prog W .any base 27 v) (h : DataW.Trod enc Tryz.prog W 0 (fun _ => true) true 27 v d p) :
    ∃ (sf sp : SV) (n : Int) (fs : List FV) (lp : List (SV × SV)) (ps : Pcs), v = .agg [sf.val, .int .i64 n, sp.val].toArray ∧ SlL sf eF fs (wfrag W) ∧ SlL sp eP lp (wfrag W) ∧ PsIn [Old W] lp ps ∧
      fs.length ≤ Rows.uptoBulk d ∧ (∀ f ∈ fs, f.name.size ≤ Rows.uptoBulk d) ∧ ps.length ≤ Rows.uptoBulk d ∧ psLen ps ≤ 110 * Rows.uptoBulk d ∧
      ∀ p ∈ ps, (∀ x ∈ p.1, x < 256) ∧ p.1.length ≤ Rows.uptoBulk d ∧ (∀ x ∈ p.2, x ≤ 9223372036854775807) ∧ p.2.length ≤ Rows.uptoBulk d := by
  obtain ⟨fuel, hf⟩ := h
  have hv : ∃ cs, v = .agg cs := by
    rcases hval with hv | ⟨_, hv⟩ <;>
    · unfold Value.okWide at hv
      rw [Tryz.underlying27] at hv
      obtain ⟨cs, rfl, _⟩ := hv
      exact ⟨cs, rfl⟩
  obtain ⟨cs, rfl⟩ := hv
  obtain ⟨xs, m, _, hd, hl, hxl, hff⟩ := DataW.trod_struct Tryz.underlying27 hf
  simp only [Prod.mk.injEq] at hd
  obtain ⟨rfl, rfl⟩ := hd
  rw [cells27] at hl
  obtain ⟨l⟩ := cs
  simp only [Value.cells] at hl hff
  match l, hl with
  | [c0, c1, c2], _ =>
    have g0 : DataW.trod enc Tryz.prog W 0 (fun _ => true) true m 24 (([c0, c1, c2].drop 0).take (Tryz.prog.cellsOf 24)) = xs[0]? := hff 0 _ rfl
    rw [cells24] at g0
    have g1 : DataW.trod enc Tryz.prog W 0 (fun _ => true) true m 3 (([c0, c1, c2].drop 1).take (Tryz.prog.cellsOf 3)) = xs[1]? := hff 1 _ rfl
    rw [cells3] at g1
    have g2 : DataW.trod enc Tryz.prog W 0 (fun _ => true) true m 25 (([c0, c1, c2].drop 2).take (Tryz.prog.cellsOf 25)) = xs[2]? := hff 2 _ rfl
    rw [cells25] at g2
    match xs, hxl with
    | [x0, x1, x2], _ =>
      obtain ⟨ys, m', _, e0, hl0, hyl, hg⟩ := DataW.trod_struct Tryz.underlying24 (show _ = some x0 from g0)
      have k0 : DataW.trod enc Tryz.prog W 0 (fun _ => true) true m' 22 (([c0].drop 0).take (Tryz.prog.cellsOf 22)) = ys[0]? := hg 0 _ rfl
      rw [cells22] at k0
      match ys, hyl with
      | [y0], _ =>
        obtain ⟨sf, fs, h0, a0, b0, r0⟩ := sl_open eF (Q := fun a d => a.name.size ≤ Rows.uptoBulk d) Tryz.underlying22 cells59 (fun n cs y h => rd_field n cs y h) (show _ = some y0 from k0)
        obtain ⟨n, h1, _, _⟩ := DataW.trod_int Tryz.underlying3 (show _ = some x1 from g1)
        obtain ⟨sp, lp, h2, a2, b2, r2⟩ := sl_open eP (Q := fun a d => ∃ q, PcQ W a d q) Tryz.underlying25 cells49 (fun n cs y h => rd_piece n cs y h) (show _ = some x2 from g2)
        simp at h0 h1 h2
        subst h0; subst h1; subst h2
        have hB : Rows.uptoBulk y0.1 + Rows.uptoBulk x2.1 ≤ Rows.uptoBulk (DataW.agg ([x0, x1, x2].map (·.1))) := by
          rw [e0]
          simp only [List.map_cons, List.map_nil, Rows.uptoBulk, Rows.uptoBulkAll]
          omega
        obtain ⟨B, hBe⟩ : ∃ B, B = Rows.uptoBulk (DataW.agg ([x0, x1, x2].map (·.1))) := ⟨_, rfl⟩
        rw [← hBe] at hB ⊢
        have hfn : ∀ f ∈ fs, f.name.size ≤ Rows.uptoBulk y0.1 := by
          rcases r0 with rfl | ⟨ds, sp', he, hdl, hq⟩
          · intro f hf; cases hf
          · intro f hf
            obtain ⟨i, hi⟩ := List.mem_iff_getElem?.1 hf
            have hil := (List.getElem?_eq_some_iff.1 hi).1
            obtain ⟨d, hd⟩ : ∃ d, ds[i]? = some d := ⟨_, List.getElem?_eq_getElem (by omega)⟩
            have h1 := hq i f d hi hd
            have h2 := bulk_part (List.mem_of_getElem? hd)
            rw [he]
            simp only [Rows.uptoBulk]; omega
        have hps : ∃ ps : Pcs, PsIn [Old W] lp ps ∧ ps.length ≤ Rows.uptoBulk x2.1 ∧ psLen ps ≤ 110 * Rows.uptoBulk x2.1 ∧ ∀ p ∈ ps, (∀ x ∈ p.1, x < 256) ∧ p.1.length ≤ Rows.uptoBulk x2.1 ∧ (∀ x ∈ p.2, x ≤ 9223372036854775807) ∧ p.2.length ≤ Rows.uptoBulk x2.1 := by
          rcases r2 with rfl | ⟨ds, sp', he, hdl, hq⟩
          · exact ⟨[], PsIn.nil, Nat.zero_le _, by simp [psLen], fun p hp => by cases hp⟩
          · obtain ⟨ps, q1, q2⟩ := choose_list (R := fun a d q => PcQ W a d q) lp ds hdl.symm hq
            have get : ∀ (i : Nat) (q : List Nat × List Int) , ps[i]? = some q → ∃ a d, lp[i]? = some a ∧ ds[i]? = some d ∧ PcQ W a d q := by
              intro i q hi
              have hil := (List.getElem?_eq_some_iff.1 hi).1
              obtain ⟨a, ha⟩ : ∃ a, lp[i]? = some a := ⟨_, List.getElem?_eq_getElem (by omega)⟩
              obtain ⟨d, hd⟩ : ∃ d, ds[i]? = some d := ⟨_, List.getElem?_eq_getElem (by omega)⟩
              exact ⟨a, d, ha, hd, q2 i a d q ha hd hi⟩
            obtain ⟨s1, s2⟩ := psLen_le ds ps (by omega) (fun i q d hi hd => by
              obtain ⟨a, d', _, hd', hp⟩ := get i q hi
              rw [hd] at hd'; cases hd'
              exact hp.2.2.2.2)
            have hlen := bulk_len ds
            have hx2 : Rows.uptoBulkAll ds + 1 ≤ Rows.uptoBulk x2.1 := by
              rw [he]; simp only [Rows.uptoBulk]; omega
            refine ⟨ps, ⟨q1.symm, fun i a q ha hi => ?_⟩, by omega, by omega, fun p hp => ?_⟩
            · obtain ⟨a', d, ha', _, hp⟩ := get i q hi
              rw [ha] at ha'; cases ha'
              exact ⟨sl_old hp.1, sl_old hp.2.1⟩
            · obtain ⟨i, hi⟩ := List.mem_iff_getElem?.1 hp
              obtain ⟨a', d, _, _, hp2⟩ := get i p hi
              have := s2 p hp
              exact ⟨hp2.2.2.1, by omega, hp2.2.2.2.1, by omega⟩
        obtain ⟨ps, p1, p2, p3, p4⟩ := hps
        have hb0 := bulk_pos y0.1
        exact ⟨sf, sp, n, fs, lp, ps, rfl, a0, a2, p1, by omega, fun f hf => by have := hfn f hf; omega, by omega, by omega, fun p hp => by
          obtain ⟨t1, t2, t3, t4⟩ := p4 p hp
          exact ⟨t1, by omega, t3, by omega⟩⟩
/-- A list of bytes, opened. -/
theorem open_bs {v : Value} {d : DataW H} {p : List MemPlace} (hval : ∃ base, Value.okWide Tryz.prog W .any base 29 v) (h : DataW.Trod enc Tryz.prog W 0 (fun _ => true) true 29 v d p) :
    ∃ (s : SV) (xs : List Nat), v = s.val ∧ SlL s eB xs (wfrag W) ∧ (∀ x ∈ xs, x < 256) ∧ xs.length ≤ Rows.uptoBulk d := by
  obtain ⟨fuel, hf⟩ := h
  obtain ⟨s, xs, h0, a0, b0, r0⟩ := sl_open eB (Q := fun a _ => a < 256) Tryz.underlying29 cells5 (fun n cs y h => rd_byte n cs y h) hf
  refine ⟨s, xs, ?_, a0, all_of r0, by simp only at b0; omega⟩
  obtain ⟨base, hv⟩ := hval
  unfold Value.okWide at hv
  rw [Tryz.underlying29] at hv
  simp only at hv
  unfold Cell.okWide at hv
  rw [Tryz.underlying29] at hv
  unfold SV.val at h0 ⊢
  cases v <;> simp [Value.cells, Cell.ok, Tryz.underlying29] at h0 hv ⊢
  exact h0
end
end Go.Proofs.YtcbidldebfibkaaGreatDoor
namespace Go.Proofs.YtcbidldebfibkaaGreatDoor
open Go Go.Sx Go.ChangeShapes Go.WideShapes Go.ChangeAt Go.RowKit
set_option maxRecDepth 100000
set_option linter.unusedVariables false
set_option linter.unusedSimpArgs false
/-! ## From a walk to the row -/
/-- All that lay there lies there as it did. -/
def OldKept (W W' : World) : Prop := W'.os = W.os ∧ W'.output = W.output ∧ ∀ (i : Nat) (o : Obj), W.heap[i]? = some o → W'.heap[i]? = some o
theorem calls_old {f : FuncId} {args : List Value} {W : World} {g : Nat → Nat × Nat} (h : SC (baseOf W g) Tryz.prog f args [Old W] (fun v H' => v = .bool true ∧ H' = [Old W])) :
    Calls Tryz.prog f args.toArray W fun e W' => e = .returned (.bool true) ∧ OldKept W W' :=
  (h.call W (old_sat (same_base W g))).mono fun e W' he => by
    cases e with
    | returned v =>
      obtain ⟨H', hs, rfl, rfl⟩ := he
      exact ⟨rfl, hs.1.os, hs.1.output, fun i o ho => old_back hs ho⟩
    | _ => exact he.elim
theorem OldKept.keptBut {W W' : World} (h : OldKept W W') (may : MemPlace → Prop) : W.keptBut W' may := by
  refine ⟨h.1, h.2.1, fun i hi => ?_⟩
  obtain ⟨o, ho⟩ : ∃ o, W.heap[i]? = some o := ⟨_, Array.getElem?_eq_getElem hi⟩
  rw [ho, h.2.2 i o ho]
  cases o with
  | cells c t fr => exact ⟨rfl, rfl, rfl, fun _ _ => rfl⟩
  | map es clock => exact Or.inr ⟨rfl, rfl⟩
  | _ => rfl
theorem OldKept.sameAt {W W' : World} (h : OldKept W W') {p : MemPlace} (hp : p.block < W.heap.size) : W.sameAt W' p := by
  obtain ⟨o, ho⟩ : ∃ o, W.heap[p.block]? = some o := ⟨_, Array.getElem?_eq_getElem hp⟩
  have h2 := h.2.2 _ _ ho
  cases p with
  | cell b off =>
    have e : W'.heap[b]? = W.heap[b]? := h2.trans ho.symm
    show W'.cell? ⟨b, off, none⟩ = W.cell? ⟨b, off, none⟩
    simp only [World.cell?, e]
  | map b => exact h2.trans ho.symm
section
variable {H : Type} {enc : TypeId × Value → H}
theorem trodAll_carry {P : Program} {W W' : World} {base : Nat} {sp : Nat → Bool} {held : Bool} : ∀ {ts : List TypeId} {vs : List Value} {ds : List (DataW H)} {ps : List MemPlace}, DataW.TrodAll enc P W base sp held ts vs ds ps → (∀ p ∈ ps, W.sameAt W' p) → DataW.TrodAll enc P W' base sp held ts vs ds ps
  | [], [], [], _, h, _ => h
  | _ :: _, _ :: _, _ :: _, _, ⟨p, q, ⟨n, h1⟩, h2, e⟩, hs => ⟨p, q, ⟨n, DataW.trod_carry n _ _ _ h1 fun x hx => hs x (by rw [e]; exact List.mem_append_left _ hx)⟩, trodAll_carry h2 fun x hx => hs x (by rw [e]; exact List.mem_append_right _ hx), e⟩
theorem laidOutP : laidOutB Tryz.prog = true := by kernel_rfl
theorem mapsRowedP : mapsRowed Tryz.prog = true := by kernel_rfl
theorem slicesFullP : ∀ t e, t < Tryz.prog.types.size → Tryz.prog.underlying t = some (.slice e) → 0 < Tryz.prog.cellsOf e := slices_full_of Tryz.prog (by kernel_rfl)
theorem post_old {f : Func} {s : ChangeSpec} {apart fresh handsOn : Bool} {W W' : World} {args : Array Value} {ds gs : List (DataW H)} {before : List MemPlace}
    (hW : DataW.Whole enc Tryz.prog f.params.toList s.vars apart W args.toList ds gs before) (hvars : s.vars = []) (hr : f.resultTypes = #[4])
    (hfn : s.fn H (ds ++ gs) = { results := [.lit (.bool true)], args := ds }) (hT : ∀ t ∈ f.params.toList, t < Tryz.prog.types.size) (hk : OldKept W W') :
    s.post enc Tryz.prog f apart fresh handsOn false W args (.bool true) W' := by
  have hlt := hW.lt
  have hW0 := hW
  obtain ⟨p, q, hA, hV, rfl, hfz, hnd⟩ := hW
  rw [hvars] at hV
  have hq : gs = [] ∧ q = [] := by
    cases gs with
    | nil => exact ⟨rfl, hV⟩
    | cons a b => exact hV.elim
  obtain ⟨rfl, rfl⟩ := hq
  rw [List.append_nil] at hlt hfn
  have hA' := trodAll_carry (W' := W') hA fun x hx => hk.sameAt (hlt x hx)
  refine ⟨ds, [], p ++ [], [], p, [], hW0, ?_, ?_, ?_, hk.keptBut _, fun h => by cases h⟩
  · rw [List.append_nil, hfn, hr]
    exact trodAll_cons_mk (shut_bool Tryz.underlying4 _) trodAll_mk0
  · rw [List.append_nil, hfn]
    exact DataW.TrodAll.respare (T := (· < Tryz.prog.types.size)) (kids_rows laidOutP mapsRowedP) slicesFullP hT hA' fun x hx => decide_eq_true (hlt x hx)
  · rw [hvars, List.append_nil, hfn]
    rfl
end
theorem types_size : Tryz.prog.types.size = 402 ∨ 300 < Tryz.prog.types.size := Or.inr (of_decide_eq_true (by kernel_rfl))
theorem lt_types {t : Nat} (h : t < 300) : t < Tryz.prog.types.size := by
  have h2 : 300 < Tryz.prog.types.size := of_decide_eq_true (by kernel_rfl)
  omega
/-- The bound. -/
theorem small_bulk {H : Type} {l : List (DataW H)} (hk : Rows.uptoSmall H l = true) : Rows.uptoBulkAll l ≤ 1048576 := by
  unfold Rows.uptoSmall at hk
  exact of_decide_eq_true hk
end Go.Proofs.YtcbidldebfibkaaGreatDoor
