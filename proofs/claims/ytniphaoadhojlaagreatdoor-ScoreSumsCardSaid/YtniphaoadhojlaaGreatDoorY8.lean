import Derived.Test.YtniphaoadhojlaaGreatDoorW226
import Derived.Test.YtniphaoadhojlaaGreatDoorY1
import Derived.LaidLaws
import Derived.Lib.LaidTab
import Derived.Deep.Slices
import Derived.OpenShut
import Derived.ChangeArms
set_option linter.all false
namespace Go.Proofs.YtniphaoadhojlaaGreatDoor
open Go Go.Sx
set_option maxRecDepth 100000
/-! ## What the listed variables hold: the errors and the two tables -/
def errTexts : List (List UInt8) := [[99, 111, 110, 99, 111, 114, 100, 58, 32, 115, 99, 104, 101, 109, 97], [99, 111, 110, 99, 111, 114, 100, 58, 32, 114, 97, 110, 103, 101], [99, 111, 110, 99, 111, 114, 100, 58, 32, 116, 111, 111, 32, 115, 104, 111, 114, 116], [99, 111, 110, 99, 111, 114, 100, 58, 32, 118, 97, 114, 105, 110, 116], [99, 111, 110, 99, 111, 114, 100, 58, 32, 108, 105, 109, 105, 116], [99, 111, 110, 99, 111, 114, 100, 58, 32, 111, 114, 100, 101, 114], [99, 111, 110, 99, 111, 114, 100, 58, 32, 116, 97, 105, 108], [99, 111, 110, 99, 111, 114, 100, 58, 32, 116, 97, 103], [99, 111, 110, 99, 111, 114, 100, 58, 32, 115, 117, 109], [99, 111, 110, 99, 111, 114, 100, 58, 32, 115, 105, 122, 101], [99, 111, 110, 99, 111, 114, 100, 58, 32, 99, 111, 114, 114, 117, 112, 116], [99, 111, 110, 99, 111, 114, 100, 58, 32, 102, 105, 101, 108, 100], [99, 111, 110, 99, 111, 114, 100, 58, 32, 118, 97, 108, 117, 101], [99, 111, 110, 99, 111, 114, 100, 58, 32, 112, 97, 116, 116, 101, 114, 110], [99, 111, 110, 99, 111, 114, 100, 58, 32, 115, 116, 97, 116, 101, 115], [99, 111, 110, 99, 111, 114, 100, 58, 32, 115, 121, 110, 116, 97, 120], [99, 111, 110, 99, 111, 114, 100, 58, 32, 116, 111, 111, 32, 100, 101, 101, 112], [99, 111, 110, 99, 111, 114, 100, 58, 32, 110, 111, 100, 101], [99, 111, 110, 99, 111, 114, 100, 58, 32, 116, 111, 111, 32, 109, 97, 110, 121, 32, 116, 101, 114, 109, 115], [99, 111, 110, 99, 111, 114, 100, 58, 32, 115, 99, 111, 114, 101, 32, 111, 118, 101, 114, 102, 108, 111, 119], [99, 111, 110, 99, 111, 114, 100, 58, 32, 99, 111, 100, 101], [99, 111, 110, 99, 111, 114, 100, 58, 32, 102, 117, 101, 108], [99, 111, 110, 99, 111, 114, 100, 58, 32, 100, 111, 99, 117, 109, 101, 110, 116], [99, 111, 110, 99, 111, 114, 100, 58, 32, 99, 111, 109, 109, 97, 110, 100]]
def errText (i : Nat) : List UInt8 := errTexts.getD i []
theorem errText_inj : ∀ a b : Fin 24, errText a.val = errText b.val → a = b := by decide +kernel

theorem laid_get {P : Program} {W : World} : ∀ {l : List (String × DataW Unit)} {ps : List MemPlace}, DataW.LaidVars P W l ps → ∀ {n : String} {d : DataW Unit}, (n, d) ∈ l →
    ∃ g t cs fuel p, P.globalNamed n = some g ∧ (P.globals[g]?).map (·.type) = some t ∧ W.var? P n = some cs ∧ DataW.trod (fun _ => ()) P W 0 (fun _ => true) false fuel t cs.toList = some (d, p) ∧ (∀ x ∈ MemPlace.row ⟨g, 0, none⟩ cs.size, x ∈ ps) ∧ ∀ x ∈ p, x ∈ ps
  | [], _, _, n, d, hm => by cases hm
  | (n', d') :: r, ps, h, n, d, hm => by
    obtain ⟨g, t, cs, fuel, p, q, h1, h2, h3, h4, h5, rfl⟩ := h
    rcases List.mem_cons.1 hm with e | hm
    · cases e
      exact ⟨g, t, cs, fuel, p, h1, h2, h3, h4, fun x hx => by simp [hx], fun x hx => by simp [hx]⟩
    · obtain ⟨g', t', cs', fuel', p', k1, k2, k3, k4, k5, k6⟩ := laid_get h5 hm
      exact ⟨g', t', cs', fuel', p', k1, k2, k3, k4, fun x hx => List.mem_append_right _ (k5 x hx), fun x hx => List.mem_append_right _ (k6 x hx)⟩

def Cond (W : World) (ps : List MemPlace) : Prop := ∀ b off, MemPlace.cell b off ∈ ps → (∃ c t, W.heap[b]? = some (.cells c t (0, 0))) ∧ ∀ u v, W.cell? ⟨b, off, none⟩ = some (.iface u v) → Value.okWide Tryz.prog W .any 0 u v
/-- Variable i holds an error whose text is this. -/
def ErrAt (W : World) (i : Nat) (q : Nat × Nat) : Prop := ∃ E c t s, W.heap[gix i]? = some (.cells #[.iface 136 (.pointer (some ⟨q.1, q.2, none⟩))] E (0, 0)) ∧ W.heap[q.1]? = some (.cells c t (0, 0)) ∧ W.cell? ⟨q.1, q.2, none⟩ = some (.string s) ∧ s.data.toList = errText i

theorem starE : "*" ++ "errors.errorString" = "*errors.errorString" := by decide
theorem row368 (u : TypeId) (h : Tryz.prog.typeName? 3 u = some "*errors.errorString") : u = 136 :=
  typeName_ptr_named (nm := "errors.errorString") (by rw [starE]; kernel_rfl) (by kernel_rfl) (by decide) u (by rw [starE]; exact h)
theorem spot_none {W : World} {a : Addr} {v : Value} (h : W.cell? a = some v) : a = ⟨a.block, a.off, none⟩ := by
  obtain ⟨b, o, s⟩ := a
  cases s with
  | none => rfl
  | some x =>
    simp only [World.cell?, Option.isSome_some, if_true] at h
    split at h <;> cases h
theorem cells394 : Tryz.prog.cellsOf 138 = 1 := by kernel_rfl
theorem cells9 : Tryz.prog.cellsOf 9 = 1 := by kernel_rfl
theorem var_blk {P : Program} {W : World} {n : String} {g : Nat} {cs : Array Value} (hg : P.globalNamed n = some g) (h : W.var? P n = some cs) : ∃ E fz, W.heap[g]? = some (.cells cs E fz) := by
  simp only [World.var?, hg, Option.bind_some] at h
  split at h
  · rename_i cs' E fz he
    simp only [Option.some.injEq] at h
    subst h
    exact ⟨E, fz, he⟩
  · cases h
theorem sent_get {W : World} {l : List (String × DataW Unit)} {ps : List MemPlace} (hv : DataW.LaidVars Tryz.prog W l ps) (hc : Cond W ps) {n : String} {i : Nat} (hm : (n, .iface "*errors.errorString" (.ptr (.agg [.lit (.string (errText i))]))) ∈ l) (hg : Tryz.prog.globalNamed n = some (gix i)) (ht : (Tryz.prog.globals[gix i]?).map (·.type) = some 27) : ∃ q, ErrAt W i q := by
  obtain ⟨g, t, cs, fuel, p, h1, h2, h3, h4, h5, h6⟩ := laid_get hv hm
  obtain rfl := Option.some.inj (hg.symm.trans h1)
  obtain rfl := Option.some.inj (ht.symm.trans h2)
  obtain ⟨E, fz, hb⟩ := var_blk hg h3
  have hok : ∀ u v, cs.toList = [.iface u v] → Value.okWide Tryz.prog W .any 0 u v := by
    intro u v hcs
    have hsz : cs.size = 1 := by rw [← Array.length_toList, hcs]; rfl
    have hmem : MemPlace.cell (gix i) 0 ∈ ps := h5 _ (by rw [hsz]; simp [MemPlace.row])
    refine (hc (gix i) 0 hmem).2 u v ?_
    rw [World.var?_cell hg h3 0, ← Array.getElem?_toList, hcs]; rfl
  obtain ⟨a, s, hcs, hcell, htext, _, rfl⟩ := errorString_of_trod Tryz.underlying27 row368 Tryz.underlying136 Tryz.underlying138 rfl rfl Tryz.underlying9 cells394 cells9 h4 hok
  have hsz : cs.size = 1 := by rw [← Array.length_toList, hcs]; rfl
  obtain ⟨c0, t0, hc0⟩ := (hc (gix i) 0 (h5 _ (by rw [hsz]; simp [MemPlace.row]))).1
  obtain ⟨c1, t1, hc1⟩ := (hc a.block a.off (h6 _ (by simp [MemPlace.row]))).1
  have ha := spot_none hcell
  refine ⟨(a.block, a.off), t0, c1, t1, s, ?_, hc1, by rw [← ha]; exact hcell, htext⟩
  rw [hc0] at hb
  cases hb
  rw [hc0, ← ha]
  congr 2
  apply Array.ext'
  rw [hcs]
theorem gn0 : Tryz.prog.globalNamed "concord/api.ErrSchema" = some 11 := by kernel_rfl
theorem gn1 : Tryz.prog.globalNamed "concord/api.ErrRange" = some 8 := by kernel_rfl
theorem gn2 : Tryz.prog.globalNamed "concord/api.ErrShort" = some 1 := by kernel_rfl
theorem gn3 : Tryz.prog.globalNamed "concord/api.ErrVarint" = some 2 := by kernel_rfl
theorem gn4 : Tryz.prog.globalNamed "concord/api.ErrLimit" = some 3 := by kernel_rfl
theorem gn5 : Tryz.prog.globalNamed "concord/api.ErrOrder" = some 4 := by kernel_rfl
theorem gn6 : Tryz.prog.globalNamed "concord/api.ErrTail" = some 5 := by kernel_rfl
theorem gn7 : Tryz.prog.globalNamed "concord/api.ErrTag" = some 6 := by kernel_rfl
theorem gn8 : Tryz.prog.globalNamed "concord/api.ErrSum" = some 7 := by kernel_rfl
theorem gn9 : Tryz.prog.globalNamed "concord/api.ErrSize" = some 9 := by kernel_rfl
theorem gn10 : Tryz.prog.globalNamed "concord/api.ErrCorrupt" = some 10 := by kernel_rfl
theorem gn11 : Tryz.prog.globalNamed "concord/api.ErrField" = some 12 := by kernel_rfl
theorem gn12 : Tryz.prog.globalNamed "concord/api.ErrValue" = some 0 := by kernel_rfl
theorem gn13 : Tryz.prog.globalNamed "concord/api.ErrPattern" = some 13 := by kernel_rfl
theorem gn14 : Tryz.prog.globalNamed "concord/api.ErrStates" = some 14 := by kernel_rfl
theorem gn15 : Tryz.prog.globalNamed "concord/api.ErrSyntax" = some 15 := by kernel_rfl
theorem gn16 : Tryz.prog.globalNamed "concord/api.ErrDeep" = some 16 := by kernel_rfl
theorem gn17 : Tryz.prog.globalNamed "concord/api.ErrNode" = some 17 := by kernel_rfl
theorem gn18 : Tryz.prog.globalNamed "concord/api.ErrTerms" = some 18 := by kernel_rfl
theorem gn19 : Tryz.prog.globalNamed "concord/api.ErrScore" = some 19 := by kernel_rfl
theorem gn20 : Tryz.prog.globalNamed "concord/api.ErrCode" = some 20 := by kernel_rfl
theorem gn21 : Tryz.prog.globalNamed "concord/api.ErrFuel" = some 21 := by kernel_rfl
theorem gn22 : Tryz.prog.globalNamed "concord/api.ErrDoc" = some 22 := by kernel_rfl
theorem gn23 : Tryz.prog.globalNamed "concord/api.ErrCommand" = some 23 := by kernel_rfl
theorem gt24 : ∀ i : Fin 24, (Tryz.prog.globals[gix i.val]?).map (·.type) = some 27 := by
  have h : ((List.range 24).all fun i => decide ((Tryz.prog.globals[gix i]?).map (·.type) = some 27)) = true := by kernel_rfl
  intro i
  exact of_decide_eq_true (List.all_eq_true.1 h i.val (List.mem_range.2 i.isLt))
theorem allE {W : World} {ps : List MemPlace} (hv : DataW.LaidVars Tryz.prog W laidL ps) (hc : Cond W ps) : ∀ i, gokB i = true → ∃ q, ErrAt W i q
  | 0, _ => sent_get hv hc (List.mem_of_getElem? (i := 13) rfl) gn0 (gt24 0)
  | 1, _ => sent_get hv hc (List.mem_of_getElem? (i := 10) rfl) gn1 (gt24 1)
  | 2, _ => sent_get hv hc (List.mem_of_getElem? (i := 3) rfl) gn2 (gt24 2)
  | 3, _ => sent_get hv hc (List.mem_of_getElem? (i := 4) rfl) gn3 (gt24 3)
  | 4, _ => sent_get hv hc (List.mem_of_getElem? (i := 5) rfl) gn4 (gt24 4)
  | 5, _ => sent_get hv hc (List.mem_of_getElem? (i := 6) rfl) gn5 (gt24 5)
  | 6, _ => sent_get hv hc (List.mem_of_getElem? (i := 7) rfl) gn6 (gt24 6)
  | 7, _ => sent_get hv hc (List.mem_of_getElem? (i := 8) rfl) gn7 (gt24 7)
  | 8, _ => sent_get hv hc (List.mem_of_getElem? (i := 9) rfl) gn8 (gt24 8)
  | 9, _ => sent_get hv hc (List.mem_of_getElem? (i := 11) rfl) gn9 (gt24 9)
  | 10, _ => sent_get hv hc (List.mem_of_getElem? (i := 12) rfl) gn10 (gt24 10)
  | 11, _ => sent_get hv hc (List.mem_of_getElem? (i := 14) rfl) gn11 (gt24 11)
  | 12, _ => sent_get hv hc (List.mem_of_getElem? (i := 15) rfl) gn12 (gt24 12)
  | 13, _ => sent_get hv hc (List.mem_of_getElem? (i := 16) rfl) gn13 (gt24 13)
  | 14, _ => sent_get hv hc (List.mem_of_getElem? (i := 17) rfl) gn14 (gt24 14)
  | 15, _ => sent_get hv hc (List.mem_of_getElem? (i := 18) rfl) gn15 (gt24 15)
  | 16, _ => sent_get hv hc (List.mem_of_getElem? (i := 19) rfl) gn16 (gt24 16)
  | 17, _ => sent_get hv hc (List.mem_of_getElem? (i := 20) rfl) gn17 (gt24 17)
  | 18, _ => sent_get hv hc (List.mem_of_getElem? (i := 21) rfl) gn18 (gt24 18)
  | 19, _ => sent_get hv hc (List.mem_of_getElem? (i := 22) rfl) gn19 (gt24 19)
  | 20, _ => sent_get hv hc (List.mem_of_getElem? (i := 23) rfl) gn20 (gt24 20)
  | 21, _ => sent_get hv hc (List.mem_of_getElem? (i := 24) rfl) gn21 (gt24 21)
  | 22, _ => sent_get hv hc (List.mem_of_getElem? (i := 25) rfl) gn22 (gt24 22)
  | 23, _ => sent_get hv hc (List.mem_of_getElem? (i := 26) rfl) gn23 (gt24 23)
  | n + 24, h => absurd (gok_lt h) (by omega)
theorem gnS27 : Tryz.prog.globalNamed "math/big.basicSqrThreshold" = some 27 := by kernel_rfl
theorem gtS27 : (Tryz.prog.globals[27]?).map (·.type) = some 3 := by kernel_rfl
theorem gnS28 : Tryz.prog.globalNamed "math/big.karatsubaSqrThreshold" = some 28 := by kernel_rfl
theorem gtS28 : (Tryz.prog.globals[28]?).map (·.type) = some 3 := by kernel_rfl
end Go.Proofs.YtniphaoadhojlaaGreatDoor
namespace Go.Proofs.YtniphaoadhojlaaGreatDoor
open Go Go.Sx
set_option maxRecDepth 100000
/-! ## The world at the call's beginning, as a symbolic heap -/
theorem scal_get {W : World} {ps : List MemPlace} (hv : DataW.LaidVars Tryz.prog W laidL ps) {n : String} {i : Nat} {k : Int} (hm : (n, (.lit (.int .i64 k) : DataW Unit)) ∈ laidL) (hg : Tryz.prog.globalNamed n = some i) (ht : (Tryz.prog.globals[i]?).map (·.type) = some 3) : ∃ E fz, W.heap[i]? = some (.cells #[.int .i64 k] E fz) := by
  obtain ⟨g, t, cs, fuel, p, h1, h2, h3, h4, h5, h6⟩ := laid_get hv hm
  obtain rfl := Option.some.inj (hg.symm.trans h1)
  obtain rfl := Option.some.inj (ht.symm.trans h2)
  obtain ⟨E, fz, hb⟩ := var_blk hg h3
  obtain ⟨k', hcs, he, _⟩ := DataW.trod_int Tryz.underlying3 h4
  refine ⟨E, fz, ?_⟩
  rw [hb]
  congr 2
  apply Array.ext'
  rw [hcs]
  simp at he
  obtain ⟨e1, _⟩ := he
  rw [e1]

def wfrag (W : World) : Frag := W.heap.toList.zipIdx.map fun p => (p.2, p.1)
theorem wfrag_mem {W : World} {i : Nat} {o : Obj} : (i, o) ∈ wfrag W ↔ W.heap[i]? = some o := by
  simp only [wfrag, List.mem_map, Prod.mk.injEq, Prod.exists]
  constructor
  · rintro ⟨o', j, hm, rfl, rfl⟩
    have := List.mem_zipIdx_iff_getElem?.1 hm
    simpa using this
  · intro h
    exact ⟨o, i, List.mem_zipIdx_iff_getElem?.2 (by simpa using h), rfl, rfl⟩
theorem wfrag_nodup (W : World) : ((wfrag W).map (·.1)).Nodup := by
  have : (wfrag W).map (·.1) = W.heap.toList.zipIdx.map (·.2) := by
    simp only [wfrag, List.map_map]; rfl
  rw [this, List.zipIdx_map_snd]
  exact List.nodup_range'
/-- All that lay there when the call began. -/
def Old (W : World) : Hp := fun L => L = wfrag W
theorem old_sat {G : Base} {W : World} (hS : Same G W) : Sat G W [Old W] :=
  ⟨hS, wfrag W, ⟨wfrag W, [], by simp, rfl, rfl⟩, wfrag_nodup W, fun x hx => wfrag_mem.1 hx⟩
theorem old_sep {W : World} {L : Frag} (h : Sep [Old W] L) : L = wfrag W := by
  obtain ⟨L1, L2, rfl, h1, h2⟩ := h
  have h1' : L1 = wfrag W := h1
  have h2' : L2 = [] := h2
  rw [h1', h2', List.append_nil]
theorem old_back {G : Base} {W W' : World} (h : Sat G W' [Old W]) {i : Nat} {o : Obj} (ho : W.heap[i]? = some o) : W'.heap[i]? = some o := by
  obtain ⟨_, L, hL, hl⟩ := h
  exact hl.at_ (i, o) (by rw [old_sep hL]; exact wfrag_mem.2 ho)

noncomputable def baseOf (W : World) (f : Nat → Nat × Nat) : Base :=
  { os := W.os, tape := W.tape, output := W.output, eT := 136, eb := fun i => if gokB i = true then (f i).1 else W.heap.size + i, eo := fun i => if gokB i = true then (f i).2 else 0 }
instance {W : World} {f : Nat → Nat × Nat} : ErrT (baseOf W f) := ⟨rfl⟩
theorem same_base (W : World) (f : Nat → Nat × Nat) : Same (baseOf W f) W := ⟨rfl, rfl, rfl⟩

theorem glb_of {W : World} {f : Nat → Nat × Nat} (hf : ∀ i, gokB i = true → ErrAt W i (f i)) : Glb (baseOf W f) [Old W] where
  err := by
    intro i hi L hL
    obtain ⟨E, c, t, s, h1, _⟩ := hf i hi
    refine ⟨E, (0, 0), ?_⟩
    rw [old_sep hL]
    refine wfrag_mem.2 ?_
    rw [h1]
    simp only [Base.err, baseOf, hi, if_true]
  blk := by
    intro i hi L hL
    obtain ⟨E, c, t, s, _, h2, _⟩ := hf i hi
    refine ⟨c, t, ?_⟩
    rw [old_sep hL]
    refine wfrag_mem.2 ?_
    simp only [baseOf, hi, if_true]
    exact h2
  inj := by
    intro a b h1 h2
    have lt : ∀ i, gokB i = true → (f i).1 < W.heap.size := fun i hi => by
      obtain ⟨E, c, t, s, _, h2, _⟩ := hf i hi
      exact (Array.getElem?_eq_some_iff.1 h2).1
    by_cases ha : gokB a = true <;> by_cases hb : gokB b = true
    · simp only [baseOf, ha, hb, if_true] at h1 h2
      obtain ⟨_, _, _, s, _, _, q1, q2⟩ := hf a ha
      obtain ⟨_, _, _, s', _, _, q3, q4⟩ := hf b hb
      rw [h1, h2, q3] at q1
      have e : s' = s := by simpa using q1
      have := errText_inj ⟨a, gok_lt ha⟩ ⟨b, gok_lt hb⟩ (by rw [← q2, ← q4, e])
      simpa using this
    · simp only [baseOf, ha, hb, if_true, if_false, Bool.false_eq_true] at h1
      have := lt a ha; omega
    · simp only [baseOf, ha, hb, if_true, if_false, Bool.false_eq_true] at h1
      have := lt b hb; omega
    · simp only [baseOf, ha, hb, if_false, Bool.false_eq_true] at h1
      omega
theorem hasV_of {W : World} {i : Nat} {v : Value} (h : ∃ E fz, W.heap[i]? = some (.cells #[v] E fz)) : HasV [Old W] i [v] where
  mem := by
    intro L hL
    obtain ⟨E, fz, h⟩ := h
    exact ⟨E, fz, by rw [old_sep hL]; exact wfrag_mem.2 h⟩
/-- What the row's list gives. -/
theorem laid_facts {W : World} (h : laidMetH Tryz.prog laidL W) : ∃ f : Nat → Nat × Nat, (∀ i, gokB i = true → ErrAt W i (f i)) ∧ BigG [Old W] := by
  have hno : (laidL.filter fun x => x.2.handleName?.isSome) = [] := by kernel_rfl
  rw [laidMetH, hno] at h
  obtain ⟨ps, hv, _, hc⟩ := h
  obtain ⟨f, hf0⟩ := Deep.choose_lt (α := Nat × Nat) (n := 24) (p := fun i q => gokB i = true → ErrAt W i q) fun i _ => (by
    by_cases h : gokB i = true
    · obtain ⟨q, hq⟩ := allE hv hc i h
      exact ⟨q, fun _ => hq⟩
    · exact ⟨(0, 0), fun h9 => absurd h9 h⟩)
  have hf : ∀ i, gokB i = true → ErrAt W i (f i) := fun i hi => hf0 i (gok_lt hi) hi
  refine ⟨f, hf, ⟨hasV_of ?_, hasV_of ?_⟩⟩
  · exact scal_get hv (List.mem_of_getElem? (i := 32) rfl) gnS27 gtS27
  · exact scal_get hv (List.mem_of_getElem? (i := 33) rfl) gnS28 gtS28
end Go.Proofs.YtniphaoadhojlaaGreatDoor
