import Derived.Test.YtniphaoadhojlaaGreatDoorSxC
import Derived.Laws.Cells
import Derived.Laws.Append
set_option linter.all false
namespace Go.Sx
open Go

/-! ## Blocks: reading and writing -/
theorem add_none (b o n : Nat) : (⟨b, o, none⟩ : Addr).add n = ⟨b, o + n, none⟩ := by
  unfold Addr.add; split <;> simp_all

theorem cell_of {w : World} {b o : Nat} {C : Array Value} {E : TypeId} {fz : Nat × Nat} (h : w.heap[b]? = some (.cells C E fz)) : w.cell? ⟨b, o, none⟩ = C[o]? := by
  simp [World.cell?, h]
theorem frozen_of {w : World} {b o : Nat} {C : Array Value} {E : TypeId} {fz : Nat × Nat} (h : w.heap[b]? = some (.cells C E fz)) : w.frozen? ⟨b, o, none⟩ = (decide (fz.1 ≤ o) && decide (o < fz.2)) := by
  simp [World.frozen?, h]

def setBlk (w : World) (b : Nat) (o : Obj) : World := { w with heap := w.heap.setIfInBounds b o }
theorem setCell_eq {w : World} {b o : Nat} {C : Array Value} {E : TypeId} {fz : Nat × Nat} (h : w.heap[b]? = some (.cells C E fz)) (v : Value) :
    w.setCell ⟨b, o, none⟩ v = setBlk w b (.cells (C.setIfInBounds o v) E fz) := by
  unfold World.setCell setBlk
  congr 1
  obtain ⟨hlt, hb⟩ := Array.getElem?_eq_some_iff.1 h
  apply Array.ext_getElem?
  intro i
  rw [Array.getElem?_modify, Array.getElem?_setIfInBounds]
  by_cases e : b = i
  · subst e; simp [hlt, hb]
  · simp [e]
theorem setBlk_get {w : World} {b : Nat} {o o' : Obj} (h : w.heap[b]? = some o) : (setBlk w b o').heap[b]? = some o' := by
  have hlt := (Array.getElem?_eq_some_iff.1 h).1
  simp [setBlk, hlt]
theorem setBlk_other {w : World} {b i : Nat} {o' : Obj} (h : i ≠ b) : (setBlk w b o').heap[i]? = w.heap[i]? := by
  simp [setBlk, Ne.symm h]
theorem setBlk_setBlk (w : World) (b : Nat) (o o' : Obj) : setBlk (setBlk w b o) b o' = setBlk w b o' := by
  simp [setBlk]
theorem setBlk_same {w : World} {b : Nat} {o : Obj} (h : w.heap[b]? = some o) : setBlk w b o = w := by
  have : w.heap.setIfInBounds b o = w.heap := by
    apply Array.ext_getElem?
    intro i
    rw [Array.getElem?_setIfInBounds]
    obtain ⟨hlt, hb⟩ := Array.getElem?_eq_some_iff.1 h
    by_cases e : b = i
    · subst e; simp [hlt, hb]
    · simp [e]
  unfold setBlk
  rw [this]

def putAt (C : Array Value) (o : Nat) : List Value → Array Value
  | [] => C
  | v :: vs => putAt (C.setIfInBounds o v) (o + 1) vs
theorem putAt_size (vs : List Value) : ∀ (C : Array Value) (o : Nat), (putAt C o vs).size = C.size := by
  induction vs with
  | nil => intro C o; rfl
  | cons v vs ih => intro C o; simp [putAt, ih]
theorem putAt_get (vs : List Value) : ∀ (C : Array Value) (o j : Nat), o + vs.length ≤ C.size → (putAt C o vs)[j]? = if o ≤ j ∧ j < o + vs.length then vs[j - o]? else C[j]? := by
  induction vs with
  | nil => intro C o j _; simp [putAt]; omega
  | cons v vs ih =>
    intro C o j h
    simp only [List.length_cons] at h
    simp only [putAt, List.length_cons]
    rw [ih _ _ _ (by simp; omega)]
    by_cases h1 : j = o
    · subst h1
      rw [if_neg (by omega), if_pos (by omega)]
      simp [show j < C.size by omega]
    · by_cases h2 : o + 1 ≤ j ∧ j < o + 1 + vs.length
      · rw [if_pos h2, if_pos (by omega)]
        rw [show j - o = (j - (o + 1)) + 1 by omega, List.getElem?_cons_succ]
      · rw [if_neg h2, if_neg (by omega)]
        simp [Ne.symm h1]
theorem putAt_toList (C : Array Value) (o : Nat) (vs : List Value) (h : o + vs.length ≤ C.size) : (putAt C o vs).toList = C.toList.take o ++ vs ++ C.toList.drop (o + vs.length) := by
  apply List.ext_getElem?
  intro j
  rw [Array.getElem?_toList, putAt_get _ _ _ _ h]
  have hl : C.toList.length = C.size := by simp
  by_cases h1 : j < o
  · rw [if_neg (by omega), List.append_assoc, List.getElem?_append_left (by simp; omega), List.getElem?_take_of_lt h1]; simp
  · by_cases h2 : j < o + vs.length
    · rw [if_pos (by omega), List.append_assoc, List.getElem?_append_right (by simp; omega), List.getElem?_append_left (by simp; omega)]
      congr 1
      simp; omega
    · rw [if_neg (by omega), List.getElem?_append_right (by simp; omega), List.getElem?_drop]
      simp only [List.length_append, List.length_take, Array.getElem?_toList, hl]
      congr 1
      omega

theorem run_storeCells_blk {P : Program} {b o : Nat} {E : TypeId} {fz : Nat × Nat} : ∀ (vs : List Value) (i : Nat) (C : Array Value) (w : World), w.heap[b]? = some (.cells C E fz) →
    (∀ j, o + i ≤ j → j < o + i + vs.length → ¬ (fz.1 ≤ j ∧ j < fz.2)) → o + i + vs.length ≤ C.size → (∀ v ∈ vs, v.oneCell' = true) →
    (storeCells ⟨b, o, none⟩ vs i).run P w = .ok () (setBlk w b (.cells (putAt C (o + i) vs) E fz)) := by
  intro vs
  induction vs with
  | nil =>
    intro i C w hb _ _ _
    simp [storeCells, putAt, setBlk_same hb]
  | cons v vs ih =>
    intro i C w hb hfz hle hone
    simp only [List.length_cons] at hfz hle
    have h1 : w.cell? ⟨b, o + i, none⟩ = some (C[o + i]'(by omega)) := by
      rw [cell_of hb]; simp [show o + i < C.size by omega]
    have h2 : w.frozen? ⟨b, o + i, none⟩ = false := by
      rw [frozen_of hb]
      have := hfz (o + i) (by omega) (by omega)
      simpa using this
    simp only [storeCells, Sem.run_bind, add_none, run_store P w _ v _ (hone v (by simp)), h1, h2]
    simp only [Bool.false_eq_true, ↓reduceIte, Result.andThen_ok]
    rw [setCell_eq hb, ih (i + 1) _ _ (setBlk_get hb) (fun j h3 h4 => hfz j (by omega) (by omega)) (by simp; omega) (fun u hu => hone u (List.mem_cons_of_mem _ hu)), setBlk_setBlk]
    rfl

theorem run_loadCells_blk {P : Program} {w : World} {b o : Nat} {C : Array Value} {E : TypeId} {fz : Nat × Nat} (hb : w.heap[b]? = some (.cells C E fz)) (cs : List Value) (h : ∀ j v, cs[j]? = some v → C[o + j]? = some v) :
    (loadCells ⟨b, o, none⟩ cs.length).run P w = .ok cs.toArray w := by
  exact run_loadCells_list w _ cs (fun j v hv => by rw [add_none, cell_of hb]; exact h j v hv)

/-! ## Lists of cells, cut and put together by instances -/
/-- n cells from off on. -/
class Cut (l : List Value) (off n : Nat) (cs : outParam (List Value)) : Prop where
  out : ∀ j v, cs[j]? = some v → l[off + j]? = some v
  len : cs.length = n
instance Cut.skip {x : Value} {l : List Value} {off n : Nat} {cs : List Value} [h : Cut l off n cs] : Cut (x :: l) (off + 1) n cs :=
  ⟨fun j v hv => by rw [show off + 1 + j = (off + j) + 1 by omega, List.getElem?_cons_succ]; exact h.out j v hv, h.len⟩
instance Cut.take {x : Value} {l : List Value} {n : Nat} {cs : List Value} [h : Cut l 0 n cs] : Cut (x :: l) 0 (n + 1) (x :: cs) :=
  ⟨fun j v hv => by
    cases j with
    | zero => simpa using hv
    | succ j => rw [show 0 + (j + 1) = (0 + j) + 1 by omega, List.getElem?_cons_succ]; exact h.out j v (by simpa using hv), by simp [h.len]⟩
instance Cut.nil {l : List Value} : Cut l 0 0 [] := ⟨fun j v hv => by simp at hv, rfl⟩

/-- vs laid over l from off on. -/
class Spl (l : List Value) (off : Nat) (vs : List Value) (l' : outParam (List Value)) : Prop where
  fit : off + vs.length ≤ l.length
  out : ∀ C : Array Value, C.toList = l → (putAt C off vs).toList = l'
theorem Spl.eq {l : List Value} {off : Nat} {vs l' : List Value} [h : Spl l off vs l'] : l' = l.take off ++ vs ++ l.drop (off + vs.length) := by
  have h1 := h.fit
  rw [← h.out l.toArray (by simp), putAt_toList _ _ _ (by simpa using h1)]
theorem Spl.mk' {l : List Value} {off : Nat} {vs l' : List Value} (h : off + vs.length ≤ l.length) (he : l' = l.take off ++ vs ++ l.drop (off + vs.length)) : Spl l off vs l' :=
  ⟨h, fun C hC => by rw [putAt_toList _ _ _ (by subst hC; simpa using h), hC, he]⟩
instance Spl.skip {x : Value} {l : List Value} {off : Nat} {vs l' : List Value} [h : Spl l off vs l'] : Spl (x :: l) (off + 1) vs (x :: l') :=
  Spl.mk' (by have := h.fit; simp; omega) (by rw [h.eq]; simp [show off + 1 + vs.length = (off + vs.length) + 1 by omega])
instance Spl.here {x v : Value} {l : List Value} {vs l' : List Value} [h : Spl l 0 vs l'] : Spl (x :: l) 0 (v :: vs) (v :: l') :=
  Spl.mk' (by have := h.fit; simp; omega) (by rw [h.eq]; simp)
instance Spl.nil {l : List Value} : Spl l 0 [] l := Spl.mk' (by simp) (by simp)

/-- The cells of a value. -/
class Cells (v : Value) (l : outParam (List Value)) : Prop where
  out : v.cells = l.toArray
  one : ∀ u ∈ l, u.oneCell' = true
/-- A value of one cell. -/
class OneV (v : Value) : Prop where
  out : v.oneCell' = true
instance {b : Bool} : OneV (.bool b) := ⟨rfl⟩
instance {k : IntKind} {n : Int} : OneV (.int k n) := ⟨rfl⟩
instance {s : ByteArray} : OneV (.string s) := ⟨rfl⟩
instance {a : Option Addr} : OneV (.pointer a) := ⟨rfl⟩
instance {a : Option Addr} {n c : Nat} : OneV (.slice a n c) := ⟨rfl⟩
instance {r : Option Nat} : OneV (.map r) := ⟨rfl⟩
instance {f : Fn} {x y : Array Value} : OneV (.func f x y) := ⟨rfl⟩
instance : OneV .nilFunc := ⟨rfl⟩
instance {u : TypeId} {v : Value} : OneV (.iface u v) := ⟨rfl⟩
instance : OneV .nilIface := ⟨rfl⟩
class AllOne (l : List Value) : Prop where
  out : ∀ u ∈ l, u.oneCell' = true
instance : AllOne [] := ⟨fun _ h => by cases h⟩
instance {v : Value} {l : List Value} [h : OneV v] [h2 : AllOne l] : AllOne (v :: l) := ⟨fun u hu => by
  rcases List.mem_cons.1 hu with rfl | hu
  · exact h.out
  · exact h2.out u hu⟩
instance (priority := low) Cells.single {v : Value} [h : OneV v] : Cells v [v] := ⟨by
  have := h.out
  cases v <;> simp_all [Value.oneCell', Value.cells], fun u hu => by simp at hu; subst hu; exact h.out⟩
instance Cells.agg {l : List Value} [h : AllOne l] : Cells (.agg l.toArray) l := ⟨rfl, h.out⟩

/-- Sums, in a form that instances can read. -/
class AddC (a b : Nat) (c : outParam Nat) : Prop where
  out : a + b = c
instance AddC.zero {a : Nat} : AddC a 0 a := ⟨rfl⟩
instance AddC.succ {a n c : Nat} [h : AddC a n c] : AddC a (n + 1) (c + 1) := ⟨by have := h.out; omega⟩

/-! ## Variables: blocks of cells that are known one by one -/
def Vr (b : Nat) (l : List Value) : Hp := fun L => ∃ E, L = [(b, .cells l.toArray E (0, 0))]

/-- Block b's cells are l (it may be shared: read only). -/
class HasV (H : Heap) (b : Nat) (l : outParam (List Value)) : Prop where
  mem : ∀ L, Sep H L → ∃ E fz, (b, Obj.cells l.toArray E fz) ∈ L
instance HasV.tail {A : Hp} {H : Heap} {b : Nat} {l : List Value} [h : HasV H b l] : HasV (A :: H) b l :=
  ⟨fun L hL => by obtain ⟨L1, L2, rfl, _, h2⟩ := hL; obtain ⟨E, fz, hm⟩ := h.mem _ h2; exact ⟨E, fz, List.mem_append_right _ hm⟩⟩
instance HasV.head {H : Heap} {b : Nat} {l : List Value} : HasV (Vr b l :: H) b l :=
  ⟨fun L hL => by obtain ⟨L1, L2, rfl, ⟨E, rfl⟩, _⟩ := hL; exact ⟨E, (0, 0), by simp⟩⟩
theorem HasV.get {G : Base} {w : World} {H : Heap} {b : Nat} {l : List Value} (h : HasV H b l) (hs : Sat G w H) : ∃ E fz, w.heap[b]? = some (.cells l.toArray E fz) := by
  obtain ⟨_, L, hL, hl⟩ := hs
  obtain ⟨E, fz, hm⟩ := h.mem L hL
  exact ⟨E, fz, hl.at_ _ hm⟩

theorem focV_get {G : Base} {w : World} {H : Heap} {b : Nat} {l : List Value} {C : Hp → Heap} (h : Foc H Vr b l C) (hs : Sat G w H) : ∃ E, w.heap[b]? = some (.cells l.toArray E (0, 0)) ∧ Sat G w (C (Pt b (.cells l.toArray E (0, 0)))) := by
  obtain ⟨hS, L, hL, hl⟩ := hs
  obtain ⟨L1, M, L2, rfl, ⟨E, rfl⟩, hB⟩ := h.foc _ hL
  exact ⟨E, hl.at_ (b, .cells l.toArray E (0, 0)) (by simp), hS, _, hB (Pt b _) _ rfl, hl⟩
theorem Sat.focV {G : Base} {w w' : World} {H : Heap} {b : Nat} {l : List Value} {C : Hp → Heap} (h : Foc H Vr b l C) (hs : Sat G w H) {o : Obj} {B : Hp} (hB : ∀ M, M = [(b, o)] → B M)
    (hS : Same G w') (hb : w'.heap[b]? = some o) (hk : ∀ i, i ≠ b → i < w.heap.size → w'.heap[i]? = w.heap[i]?) : Sat G w' (C B) := by
  obtain ⟨_, L, hL, hl⟩ := hs
  obtain ⟨L1, M, L2, rfl, ⟨E', rfl⟩, hC⟩ := h.foc _ hL
  have h1 := hl.at_ (b, .cells l.toArray E' (0, 0)) (by simp)
  exact ⟨hS, _, hC B [(b, o)] (hB _ rfl), Lies.change (by simpa using hl) hb hk⟩

section
variable {G : Base} {P : Program} {t : Tm} {H : Heap} {dst : Option Tmp} {ty : TypeId} {pos : String} {after : Array Edge} {g : Option (Nat × Bool)}

theorem run_isAgg_one {T : TypeId} [h : One P T] (w : World) : (isAgg T).run P w = .ok false w := by
  obtain ⟨d, hd, hm⟩ := h.out
  cases d <;> simp_all [isAgg, underlying]
theorem run_isAgg {T : TypeId} {n : Nat} [h : Agg P T n] (w : World) : (isAgg T).run P w = .ok true w := by
  obtain ⟨d, i, hd, hm, _⟩ := h.out
  cases d <;> simp_all [isAgg, underlying]
theorem run_sizeOf_agg {T : TypeId} {n : Nat} [h : Agg P T n] (w : World) : (sizeOf T).run P w = .ok n w := by
  obtain ⟨d, i, _, _, hi, hn⟩ := h.out
  simp [sizeOf, typeInfo, hi, hn]
theorem run_sizeOf {T : TypeId} {s b : Nat} {z : Value} [h : Inf P T s b z] (w : World) : (sizeOf T).run P w = .ok s w := by
  obtain ⟨i, hi, hn, _, _⟩ := h.out
  simp [sizeOf, typeInfo, hi, hn]
theorem run_zero {T : TypeId} {s b : Nat} {z : Value} [h : Inf P T s b z] (w : World) : (zeroValue T).run P w = .ok z w := by
  obtain ⟨i, hi, _, _, hz⟩ := h.out
  simp [zeroValue, typeInfo, hi, hz]

/-! ### Loads and stores of variables -/
theorem ev_load {T : TypeId} {x : Operand} {b off : Nat} {l : List Value} {v : Value} (hx : evo t x = some (.pointer (some ⟨b, off, none⟩))) [hT : One P T] [hH : HasV H b l] [hc : Cut l off 1 [v]] :
    Ev G P ⟨dst, .load T x, ty, pos, after, g⟩ t H v :=
  fun ρ hρ w hw => by
    obtain ⟨E, fz, hb⟩ := hH.get hw
    have h1 : w.cell? ⟨b, off, none⟩ = some v := by rw [cell_of hb]; simpa using hc.out 0 v rfl
    simp [execOp, hρ _ _ hx, Instr.loadAt, Instr.sureAddr, loadVar, run_isAgg_one, h1]
theorem ev_loadS {T : TypeId} {x : Operand} {b off n : Nat} {l cs : List Value} (hx : evo t x = some (.pointer (some ⟨b, off, none⟩))) [hT : Agg P T n] [hH : HasV H b l] [hc : Cut l off n cs] :
    Ev G P ⟨dst, .load T x, ty, pos, after, g⟩ t H (.agg cs.toArray) :=
  fun ρ hρ w hw => by
    obtain ⟨E, fz, hb⟩ := hH.get hw
    have h1 := run_loadCells_blk (P := P) (o := off) hb cs (fun j v hv => by simpa using hc.out j v hv)
    rw [hc.len] at h1
    simp [execOp, hρ _ _ hx, Instr.loadAt, Instr.sureAddr, loadVar, run_isAgg, run_sizeOf_agg (n := n), h1]

theorem st_store {T : TypeId} {x y : Operand} {b off s bb : Nat} {z v : Value} {l l' cs : List Value} {C : Hp → Heap} (hx : evo t x = some (.pointer (some ⟨b, off, none⟩))) (hy : evo t y = some v)
    [hT : Inf P T s bb z] [hv : Cells v cs] [hf : Foc H Vr b l C] [hl : Spl l off cs l'] (hs : cs.length = s) :
    St G P ⟨dst, .store T x y, ty, pos, after, g⟩ t H (fun u H' => u = undef ∧ H' = C (Vr b l')) :=
  fun ρ hρ w hw => by
    obtain ⟨E, hb, _⟩ := focV_get hf hw
    have hfit := hl.fit
    have h1 := run_storeCells_blk (P := P) (o := off) cs 0 l.toArray w hb (fun j _ _ => by simp) (by simpa using hfit) hv.one
    have hn : v.cells.size = s := by rw [hv.out]; simpa using hs
    have hr : (execOp ρ ⟨dst, .store T x y, ty, pos, after, g⟩).run P w = .ok .skip (setBlk w b (.cells (putAt l.toArray off cs) E (0, 0))) := by
      simp only [execOp, hρ _ _ hx, hρ _ _ hy, Instr.storeAt, Instr.sureAddr, storeVar, Sem.run_bind, Sem.run_pure, Result.andThen_ok, run_sizeOf (T := T), hn]
      simp only [ne_eq, not_true_eq_false, ↓reduceIte]
      rw [hv.out]
      simp only [Nat.add_zero] at h1 ⊢
      rw [h1]; rfl
    rw [hr]
    refine ⟨_, ?_, rfl, rfl⟩
    refine Sat.focV hf hw (o := .cells (putAt l.toArray off cs) E (0, 0)) (fun M hM => ⟨E, ?_⟩) ⟨hw.1.os, hw.1.tape, hw.1.output⟩ (setBlk_get hb) (fun i hi _ => setBlk_other hi)
    rw [hM, ← hl.out l.toArray (by simp)]

theorem ev_fieldAddr {T : TypeId} {x : Operand} {k b o off o' : Nat} (hx : evo t x = some (.pointer (some ⟨b, o, none⟩))) [hf : Fld P T k off] [ha : AddC o off o'] :
    Ev G P ⟨dst, .fieldAddr T x k, ty, pos, after, g⟩ t H (.pointer (some ⟨b, o', none⟩)) :=
  fun ρ hρ w _ => by
    obtain ⟨fs, f, i, h1, h2, h3, h4, h5⟩ := hf.out
    rw [← ha.out]
    simp [execOp, hρ _ _ hx, Instr.fieldAt, underlying, h1, h2, Instr.sureAddr, fieldPlace, sizeOf, typeInfo, h4, h5, h3, add_none]

/-- A new variable. -/
theorem st_box {T : TypeId} {x : Operand} {v : Value} {l : List Value} (hx : evo t x = some v) [hv : Cells v l] :
    St G P ⟨dst, .box T x, ty, pos, after, g⟩ t H (fun u H' => ∃ b, u = .pointer (some ⟨b, 0, none⟩) ∧ H' = Vr b l :: H) :=
  fun ρ hρ w hw => by
    have hr : (execOp ρ ⟨dst, .box T x, ty, pos, after, g⟩).run P w = .ok (.value (.pointer (some ⟨w.heap.size, 0, none⟩))) { w with heap := w.heap.push (.cells l.toArray T) } := by
      simp [execOp, hρ _ _ hx, Instr.box, newVar, newRow, hv.out]
    rw [hr]
    exact ⟨_, (hw.alloc _).cons (fun M hM => ⟨T, hM⟩), w.heap.size, rfl, rfl⟩
theorem st_alloc {T : TypeId} {s bb : Nat} {z : Value} {l : List Value} [hT : Inf P T s bb z] [hv : Cells z l] :
    St G P ⟨dst, .alloc T, ty, pos, after, g⟩ t H (fun u H' => ∃ b, u = .pointer (some ⟨b, 0, none⟩) ∧ H' = Vr b l :: H) :=
  fun ρ hρ w hw => by
    have hr : (execOp ρ ⟨dst, .alloc T, ty, pos, after, g⟩).run P w = .ok (.value (.pointer (some ⟨w.heap.size, 0, none⟩))) { w with heap := w.heap.push (.cells l.toArray T) } := by
      simp [execOp, Instr.alloc, run_zero (T := T), newVar, newRow, hv.out]
    rw [hr]
    exact ⟨_, (hw.alloc _).cons (fun M hM => ⟨T, hM⟩), w.heap.size, rfl, rfl⟩
end
end Go.Sx
namespace Go.Sx
open Go

/-! ## How a list lies in cells -/
structure Enc (α : Type) where
  f : α → List Value
  sz : Nat
  agg : Bool
  len : ∀ x, (f x).length = sz
  one : ∀ x, ∀ v ∈ f x, v.oneCell' = true
  pos : 0 < sz
  h1 : agg = false → sz = 1
  small : sz ≤ 64
/-- An element as a value. -/
def Enc.v {α : Type} (e : Enc α) (x : α) : Value := bif e.agg then .agg (e.f x).toArray else (e.f x).headD (.tuple #[])
theorem Enc.v_one {α : Type} (e : Enc α) (x : α) (h : e.agg = false) : e.f x = [e.v x] := by
  have h2 := e.len x
  rw [e.h1 h] at h2
  unfold Enc.v
  rw [h]
  match hf : e.f x, h2 with
  | [a], _ => rfl
theorem Enc.v_agg {α : Type} (e : Enc α) (x : α) (h : e.agg = true) : e.v x = .agg (e.f x).toArray := by
  unfold Enc.v; rw [h]; rfl
theorem Enc.v_cells {α : Type} (e : Enc α) (x : α) : (e.v x).cells = (e.f x).toArray := by
  cases h : e.agg with
  | true => rw [e.v_agg x h]; rfl
  | false =>
    have h2 := e.v_one x h
    have h3 := e.one x (e.v x) (by rw [h2]; simp)
    rw [h2]
    cases hv : e.v x <;> rw [hv] at h3 <;> simp_all [Value.cells, Value.oneCell']

def Enc.all {α : Type} (e : Enc α) (xs : List α) : List Value := xs.flatMap e.f
theorem Enc.all_nil {α : Type} (e : Enc α) : e.all [] = [] := rfl
theorem Enc.all_cons {α : Type} (e : Enc α) (x : α) (xs : List α) : e.all (x :: xs) = e.f x ++ e.all xs := rfl
theorem Enc.all_append {α : Type} (e : Enc α) (xs ys : List α) : e.all (xs ++ ys) = e.all xs ++ e.all ys := by simp [Enc.all]
theorem Enc.all_length {α : Type} (e : Enc α) (xs : List α) : (e.all xs).length = xs.length * e.sz := by
  induction xs with
  | nil => simp [Enc.all_nil]
  | cons x xs ih => rw [Enc.all_cons, List.length_append, e.len, ih, List.length_cons, Nat.add_mul]; omega
theorem Enc.all_one {α : Type} (e : Enc α) (xs : List α) : ∀ v ∈ e.all xs, v.oneCell' = true := by
  intro v hv
  obtain ⟨x, _, hx⟩ := List.mem_flatMap.1 hv
  exact e.one x v hx
theorem Enc.all_take {α : Type} (e : Enc α) (xs : List α) (n : Nat) : e.all (xs.take n) = (e.all xs).take (n * e.sz) := by
  induction xs generalizing n with
  | nil => simp [Enc.all_nil]
  | cons x xs ih =>
    cases n with
    | zero => simp [Enc.all_nil]
    | succ n =>
      rw [List.take_succ_cons, Enc.all_cons, Enc.all_cons, ih, List.take_append, e.len]
      rw [show (n + 1) * e.sz - e.sz = n * e.sz by rw [Nat.add_mul]; omega]
      rw [List.take_of_length_le (l := e.f x) (by rw [e.len, Nat.add_mul]; omega)]
theorem Enc.all_drop {α : Type} (e : Enc α) (xs : List α) (n : Nat) : e.all (xs.drop n) = (e.all xs).drop (n * e.sz) := by
  induction xs generalizing n with
  | nil => simp [Enc.all_nil]
  | cons x xs ih =>
    cases n with
    | zero => simp
    | succ n =>
      rw [List.drop_succ_cons, Enc.all_cons, ih, List.drop_append, e.len]
      rw [show (n + 1) * e.sz - e.sz = n * e.sz by rw [Nat.add_mul]; omega]
      rw [List.drop_of_length_le (l := e.f x) (by rw [e.len, Nat.add_mul]; omega)]
      simp
theorem Enc.all_get {α : Type} (e : Enc α) (xs : List α) (i j : Nat) (x : α) (hx : xs[i]? = some x) (hj : j < e.sz) : (e.all xs)[i * e.sz + j]? = (e.f x)[j]? := by
  induction xs generalizing i with
  | nil => simp at hx
  | cons y ys ih =>
    rw [Enc.all_cons]
    cases i with
    | zero =>
      simp at hx; subst hx
      rw [List.getElem?_append_left (by rw [e.len]; omega)]; simp
    | succ i =>
      simp at hx
      rw [List.getElem?_append_right (by rw [e.len, Nat.add_mul]; omega), e.len, ← ih i hx]
      congr 1
      rw [Nat.add_mul]; omega

/-- A slice's value: address, length, capacity. -/
structure SV where
  a : Option Addr
  n : Nat
  c : Nat
def SV.val (s : SV) : Value := .slice s.a s.n s.c
instance {s : SV} : OneV s.val := ⟨rfl⟩
def SV.nil : SV := ⟨none, 0, 0⟩

/-- Bytes, integers, strings, slices as elements. -/
def eB : Enc Nat := ⟨fun n => [.int .u8 (n : Int)], 1, false, fun _ => rfl, fun _ v h => by simp at h; subst h; rfl, by decide, fun _ => rfl, by decide⟩
def eI : Enc Int := ⟨fun n => [.int .i64 n], 1, false, fun _ => rfl, fun _ v h => by simp at h; subst h; rfl, by decide, fun _ => rfl, by decide⟩
def eS : Enc ByteArray := ⟨fun s => [.string s], 1, false, fun _ => rfl, fun _ v h => by simp at h; subst h; rfl, by decide, fun _ => rfl, by decide⟩
def eSV : Enc SV := ⟨fun s => [s.val], 1, false, fun _ => rfl, fun _ v h => by simp at h; subst h; rfl, by decide, fun _ => rfl, by decide⟩

def SlL {α : Type} (s : SV) (e : Enc α) (xs : List α) (L : Frag) : Prop :=
  s.n = xs.length ∧ s.n ≤ s.c ∧ ((xs = [] ∧ s.c = 0) ∨ ∃ b off C E fz, s.a = some ⟨b, off, none⟩ ∧ (b, Obj.cells C E fz) ∈ L ∧ off + s.c * e.sz ≤ C.size ∧ ∀ j v, (e.all xs)[j]? = some v → C[off + j]? = some v)

/-- The slice s reads as xs (it may be shared: read only). -/
class Sl (H : Heap) (s : SV) {α : outParam Type} (e : outParam (Enc α)) (xs : outParam (List α)) : Prop where
  out : ∀ L, Sep H L → SlL s e xs L

theorem SlL.mono {α : Type} {s : SV} {e : Enc α} {xs : List α} {L L' : Frag} (h : SlL s e xs L) (hs : ∀ x ∈ L, x ∈ L') : SlL s e xs L' := by
  obtain ⟨h1, h2, h3⟩ := h
  refine ⟨h1, h2, h3.imp id ?_⟩
  rintro ⟨b, off, C, E, fz, h4, h5, h6⟩
  exact ⟨b, off, C, E, fz, h4, hs _ h5, h6⟩

instance Sl.tail {A : Hp} {H : Heap} {s : SV} {α : Type} {e : Enc α} {xs : List α} [h : Sl H s e xs] : Sl (A :: H) s e xs :=
  ⟨fun L hL => by obtain ⟨L1, L2, rfl, _, h2⟩ := hL; exact (h.out _ h2).mono fun x hx => List.mem_append_right _ hx⟩

/-- No cell of a block of n is frozen. -/
def Okf (n : Nat) (fz : Nat × Nat) : Prop := fz.1 = fz.2 ∨ n ≤ fz.1
theorem Okf.free {n : Nat} {fz : Nat × Nat} (h : Okf n fz) (j : Nat) (hj : j < n) : ¬ (fz.1 ≤ j ∧ j < fz.2) := by
  rcases h with h | h <;> omega
/-- A slice of the call's own: nobody else holds its row. -/
def Row {α : Type} (s : SV) (e : Enc α) (xs : List α) : Hp := fun L =>
  (s = SV.nil ∧ xs = [] ∧ L = []) ∨ ∃ (b : Nat) (C : Array Value) (E : TypeId) (fz : Nat × Nat), s.a = some ⟨b, 0, none⟩ ∧ s.n = xs.length ∧ s.n ≤ s.c ∧ L = [(b, .cells C E fz)] ∧ C.size = s.c * e.sz ∧ Okf C.size fz ∧ ∀ (j : Nat) (v : Value), (e.all xs)[j]? = some v → C[j]? = some v

theorem Row.slL {α : Type} {s : SV} {e : Enc α} {xs : List α} {L : Frag} (h : Row s e xs L) : SlL s e xs L := by
  rcases h with ⟨rfl, rfl, rfl⟩ | ⟨b, C, E, fz, h1, h2, h3, rfl, h5, _, h7⟩
  · exact ⟨rfl, Nat.le_refl _, .inl ⟨rfl, rfl⟩⟩
  · exact ⟨h2, h3, .inr ⟨b, 0, C, E, fz, h1, by simp, by omega, fun j v hv => by rw [Nat.zero_add]; exact h7 j v hv⟩⟩

instance Sl.row {H : Heap} {s : SV} {α : Type} {e : Enc α} {xs : List α} : Sl (Row s e xs :: H) s e xs :=
  ⟨fun L hL => by
    obtain ⟨L1, L2, rfl, h1, h2⟩ := hL
    exact h1.slL.mono fun x hx => List.mem_append_left _ hx⟩

/-- A slice of the call's own, and the heap round it. -/
class FocR (H : Heap) (s : SV) {α : outParam Type} (e : outParam (Enc α)) (xs : outParam (List α)) (C : outParam (Hp → Heap)) : Prop where
  foc : ∀ L, Sep H L → ∃ L1 M L2, L = L1 ++ (M ++ L2) ∧ Row s e xs M ∧ ∀ (B : Hp) M', B M' → Sep (C B) (L1 ++ (M' ++ L2))
instance FocR.tail {A : Hp} {H : Heap} {s : SV} {α : Type} {e : Enc α} {xs : List α} {C : Hp → Heap} [h : FocR H s e xs C] : FocR (A :: H) s e xs (fun B => A :: C B) :=
  ⟨fun L hL => by
    obtain ⟨N1, N2, rfl, hA, h2⟩ := hL
    obtain ⟨L1, M, L2, rfl, hM, hB⟩ := h.foc _ h2
    exact ⟨N1 ++ L1, M, L2, by simp, hM, fun B M' hm => ⟨N1, L1 ++ (M' ++ L2), by simp, hA, hB B M' hm⟩⟩⟩
instance FocR.head {H : Heap} {s : SV} {α : Type} {e : Enc α} {xs : List α} : FocR (Row s e xs :: H) s e xs (fun B => B :: H) :=
  ⟨fun L hL => by
    obtain ⟨L1, L2, rfl, h1, h2⟩ := hL
    exact ⟨[], L1, L2, rfl, h1, fun B M' hm => ⟨M', L2, rfl, hm, h2⟩⟩⟩

/-- Suffixes: what a part of the heap knows, the whole knows. -/
theorem Sl.get {G : Base} {w : World} {H : Heap} {s : SV} {α : Type} {e : Enc α} {xs : List α} (h : Sl H s e xs) (hs : Sat G w H) :
    s.n = xs.length ∧ s.n ≤ s.c ∧ ((xs = [] ∧ s.c = 0) ∨ ∃ b off C E fz, s.a = some ⟨b, off, none⟩ ∧ w.heap[b]? = some (.cells C E fz) ∧ off + s.c * e.sz ≤ C.size ∧ ∀ j v, (e.all xs)[j]? = some v → C[off + j]? = some v) := by
  obtain ⟨_, L, hL, hl⟩ := hs
  obtain ⟨h1, h2, h3⟩ := h.out L hL
  refine ⟨h1, h2, h3.imp id ?_⟩
  rintro ⟨b, off, C, E, fz, h4, h5, h6⟩
  exact ⟨b, off, C, E, fz, h4, hl.at_ _ h5, h6⟩

/-- The address of cell off of element i (elements of sz cells). -/
def SV.elt (s : SV) (sz i off : Nat) : Option Addr := s.a.map fun a => ⟨a.block, a.off + (i * sz + off), none⟩

/-- A part of a slice. -/
def SV.cut (s : SV) (sz lo hi : Nat) : SV := ⟨if s.c = lo then s.a else s.a.map (·.add (lo * sz)), hi - lo, s.c - lo⟩

theorem Sl.cut {H : Heap} {s : SV} {α : Type} {e : Enc α} {xs : List α} (h : Sl H s e xs) {lo hi : Nat} (h1 : lo ≤ hi) (h2 : hi ≤ xs.length) : Sl H (s.cut e.sz lo hi) e ((xs.take hi).drop lo) := by
  refine ⟨fun L hL => ?_⟩
  obtain ⟨q1, q2, q3⟩ := h.out L hL
  refine ⟨by simp [SV.cut]; omega, by simp only [SV.cut]; omega, ?_⟩
  rcases q3 with ⟨rfl, q6⟩ | ⟨b, off, C, E, fz, q4, q5, q6, q7⟩
  · left
    simp at h2
    subst h2
    obtain rfl : lo = 0 := by omega
    exact ⟨by simp, by simp [SV.cut, q6]⟩
  · right
    by_cases hc : s.c = lo
    · refine ⟨b, off, C, E, fz, by simp [SV.cut, hc, q4], q5, by simp only [SV.cut, hc]; simp; omega, fun j v hv => ?_⟩
      have : (xs.take hi).drop lo = [] := by
        apply List.drop_of_length_le; simp; omega
      rw [this] at hv
      simp [Enc.all_nil] at hv
    · refine ⟨b, off + lo * e.sz, C, E, fz, by simp [SV.cut, hc, q4, add_none], q5, ?_, fun j v hv => ?_⟩
      · simp only [SV.cut]
        rw [Nat.sub_mul]
        have : lo * e.sz ≤ s.c * e.sz := Nat.mul_le_mul_right _ (by omega)
        omega
      · rw [Enc.all_drop, Enc.all_take, List.getElem?_drop] at hv
        rw [Nat.add_assoc]
        refine q7 _ v ?_
        by_cases hk : lo * e.sz + j < hi * e.sz
        · rwa [List.getElem?_take_of_lt hk] at hv
        · rw [List.getElem?_take_eq_none (by omega)] at hv; cases hv

section
variable {G : Base} {P : Program} {N : Nat} {Q : Post} {t : Tm} {H : Heap} {dst : Option Tmp} {ty : TypeId} {pos : String} {after : Array Edge} {g : Option (Nat × Bool)}

theorem run_und {T : TypeId} {d : TypeDesc} [h : Und P T d] (w : World) : (underlying T).run P w = .ok d w := by simp [underlying, h.out]
theorem run_info {T : TypeId} {s b : Nat} {z : Value} [h : Inf P T s b z] : ∃ i, P.info? T = some i ∧ i.size = s ∧ i.bytes = b ∧ i.zero = some z := h.out

/-! ### len, indices, parts -/
theorem ev_len {x : Operand} {T E : TypeId} {ats : Array TypeId} {s : SV} {α : Type} {e : Enc α} {xs : List α} (hx : evo t x = some s.val) (ha : ats[0]? = some T) [hT : Und P T (.slice E)] [hs : Sl H s e xs] :
    Ev G P ⟨dst, .call ⟨.builtin .len, #[x], ats⟩, ty, pos, after, g⟩ t H (.int .i64 ((xs.length : Nat) : Int)) :=
  fun ρ hρ w hw => by
    obtain ⟨h1, _⟩ := hs.get hw
    simp [execOp, resolve, invoke, builtin, Builtin.len_, hρ _ _ hx, ha, run_und (T := T), SV.val, goInt, h1]
theorem ev_len_str {x : Operand} {T : TypeId} {ats : Array TypeId} {s : ByteArray} (hx : evo t x = some (.string s)) (ha : ats[0]? = some T) [hT : Und P T .string] :
    Ev G P ⟨dst, .call ⟨.builtin .len, #[x], ats⟩, ty, pos, after, g⟩ t H (.int .i64 ((s.size : Nat) : Int)) :=
  fun ρ hρ w _ => by
    simp [execOp, resolve, invoke, builtin, Builtin.len_, hρ _ _ hx, ha, run_und (T := T), goInt]

theorem ev_indexAddr {x ix : Operand} {T E : TypeId} {s : SV} {α : Type} {e : Enc α} {xs : List α} {sz bb : Nat} {z : Value} {k : IntKind} {j : Int} (hx : evo t x = some s.val) (hi : evo t ix = some (.int k j)) [hT : Und P T (.slice E)] [hE : Inf P E sz bb z] [hs : Sl H s e xs]
    (i : Nat) (hj : j = i) (hlt : i < xs.length) :
    Ev G P ⟨dst, .indexAddr T x ix, ty, pos, after, g⟩ t H (.pointer (s.elt sz i 0)) :=
  fun ρ hρ w hw => by
    obtain ⟨h1, _, h3⟩ := hs.get hw
    rcases h3 with ⟨rfl, _⟩ | ⟨b, off, C, E', fz, h4, _⟩
    · simp at hlt
    · have h5 : ¬ (s.n ≤ i) := by omega
      simp [execOp, hρ _ _ hx, hρ _ _ hi, Instr.indexAt, asIntOf, hj, run_und (T := T), SV.val, h4, h5, run_sizeOf (T := E) (s := sz), add_none, SV.elt]

theorem ev_fieldAddr_elt {T : TypeId} {x : Operand} {s : SV} {k sz i o off o' : Nat} (hx : evo t x = some (.pointer (s.elt sz i o))) {α : Type} {e : Enc α} {xs : List α} [hs : Sl H s e xs] (hlt : i < xs.length) [hf : Fld P T k off] [ha : AddC o off o'] :
    Ev G P ⟨dst, .fieldAddr T x k, ty, pos, after, g⟩ t H (.pointer (s.elt sz i o')) :=
  fun ρ hρ w hw => by
    rw [← ha.out]
    obtain ⟨h1, _, h3⟩ := hs.get hw
    rcases h3 with ⟨rfl, _⟩ | ⟨b, of', C, E', fz, h4, _⟩
    · simp at hlt
    · obtain ⟨fs, f, i', q1, q2, q3, q4, q5⟩ := hf.out
      have hx' := hρ _ _ hx
      simp only [SV.elt, h4, Option.map_some] at hx'
      simp [execOp, hx', Instr.fieldAt, underlying, q1, q2, Instr.sureAddr, fieldPlace, sizeOf, typeInfo, q4, q5, q3, add_none, SV.elt, h4, Nat.add_assoc]

/-- The load of a cell of an element. -/
theorem ev_load_elt {T : TypeId} {x : Operand} {s : SV} {i o : Nat} {v : Value} {α : Type} {e : Enc α} {xs : List α} (hx : evo t x = some (.pointer (s.elt e.sz i o))) [hT : One P T] [hs : Sl H s e xs] (y : α) (hy : xs[i]? = some y) (hc : (e.f y)[o]? = some v) :
    Ev G P ⟨dst, .load T x, ty, pos, after, g⟩ t H v :=
  fun ρ hρ w hw => by
    obtain ⟨h1, _, h3⟩ := hs.get hw
    rcases h3 with ⟨rfl, _⟩ | ⟨b, of', C, E', fz, h4, hb, _, h6⟩
    · simp at hy
    · have hx' := hρ _ _ hx
      simp only [SV.elt, h4, Option.map_some] at hx'
      have ho : o < e.sz := by rw [← e.len y]; exact (List.getElem?_eq_some_iff.1 hc).1
      have h8 : w.cell? ⟨b, of' + (i * e.sz + o), none⟩ = some v := by
        rw [cell_of hb]; exact h6 _ v (by rw [e.all_get xs i o y hy ho]; exact hc)
      simp [execOp, hx', Instr.loadAt, Instr.sureAddr, loadVar, run_isAgg_one, h8]
/-- The load of a whole element. -/
theorem ev_load_whole {T : TypeId} {x : Operand} {s : SV} {i : Nat} {α : Type} {e : Enc α} {xs : List α} (hx : evo t x = some (.pointer (s.elt e.sz i 0))) (ha : e.agg = false) [hT : One P T] [hs : Sl H s e xs] (y : α) (hy : xs[i]? = some y) :
    Ev G P ⟨dst, .load T x, ty, pos, after, g⟩ t H (e.v y) :=
  ev_load_elt hx y hy (by rw [e.v_one y ha]; rfl)
theorem ev_loadS_whole {T : TypeId} {x : Operand} {s : SV} {i : Nat} {α : Type} {e : Enc α} {xs : List α} (hx : evo t x = some (.pointer (s.elt e.sz i 0))) (ha : e.agg = true) [hT : Agg P T e.sz] [hs : Sl H s e xs] (y : α) (hy : xs[i]? = some y) :
    Ev G P ⟨dst, .load T x, ty, pos, after, g⟩ t H (e.v y) :=
  fun ρ hρ w hw => by
    obtain ⟨h1, _, h3⟩ := hs.get hw
    rcases h3 with ⟨rfl, _⟩ | ⟨b, of', C, E', fz, h4, hb, _, h6⟩
    · simp at hy
    · have hx' := hρ _ _ hx
      simp only [SV.elt, h4, Option.map_some] at hx'
      have h8 := run_loadCells_blk (P := P) (o := of' + (i * e.sz + 0)) hb (e.f y) (fun j v hv => by
        have ho : j < e.sz := by rw [← e.len y]; exact (List.getElem?_eq_some_iff.1 hv).1
        rw [Nat.add_assoc, Nat.add_zero]
        exact h6 _ v (by rw [e.all_get xs i j y hy ho]; exact hv))
      rw [e.len] at h8
      rw [e.v_agg y ha]
      simp only [execOp, hx', Instr.loadAt, Instr.sureAddr, loadVar, Sem.run_bind, Sem.run_pure, Result.andThen_ok, run_isAgg (n := e.sz), run_sizeOf_agg (n := e.sz), h8, ↓reduceIte]
/-- The load of several cells of an element (the whole, or a struct in it). -/
theorem ev_loadS_elt {T : TypeId} {x : Operand} {s : SV} {i o n : Nat} {cs : List Value} {α : Type} {e : Enc α} {xs : List α} (hx : evo t x = some (.pointer (s.elt e.sz i o))) [hT : Agg P T n] [hs : Sl H s e xs] (y : α) (hy : xs[i]? = some y) [hc : Cut (e.f y) o n cs] :
    Ev G P ⟨dst, .load T x, ty, pos, after, g⟩ t H (.agg cs.toArray) :=
  fun ρ hρ w hw => by
    obtain ⟨h1, _, h3⟩ := hs.get hw
    rcases h3 with ⟨rfl, _⟩ | ⟨b, of', C, E', fz, h4, hb, _, h6⟩
    · simp at hy
    · have hx' := hρ _ _ hx
      simp only [SV.elt, h4, Option.map_some] at hx'
      have h8 := run_loadCells_blk (P := P) (o := of' + (i * e.sz + o)) hb cs (fun j v hv => by
        have h7 := hc.out j v hv
        have ho : o + j < e.sz := by rw [← e.len y]; exact (List.getElem?_eq_some_iff.1 h7).1
        rw [Nat.add_assoc, Nat.add_assoc]
        exact h6 _ v (by rw [e.all_get xs i (o + j) y hy ho]; exact h7))
      rw [hc.len] at h8
      simp [execOp, hx', Instr.loadAt, Instr.sureAddr, loadVar, run_isAgg, run_sizeOf_agg (n := n), h8]

/-- x[lo:hi]. -/
theorem ev_slice {T E : TypeId} {x : Operand} {lo hi : Option Operand} {s : SV} {α : Type} {e : Enc α} {xs : List α} {bb : Nat} {z : Value} (hx : evo t x = some s.val) [hT : Und P T (.slice E)] [hE : Inf P E e.sz bb z] [hs : Sl H s e xs]
    (l h : Nat) (hlo : match lo with | none => l = 0 | some o => ∃ k j, evo t o = some (.int k j) ∧ j = (l : Int)) (hhi : match hi with | none => h = xs.length | some o => ∃ k j, evo t o = some (.int k j) ∧ j = (h : Int)) (h1 : l ≤ h) (h2 : h ≤ xs.length) :
    Ev G P ⟨dst, .slice T x lo hi none, ty, pos, after, g⟩ t H (s.cut e.sz l h).val :=
  fun ρ hρ w hw => by
    obtain ⟨q1, q2, _⟩ := hs.get hw
    have e1 : (Instr.sliceBounds true s.n s.c (lo.map ρ) (hi.map ρ) none).run P w = .ok (l, h, s.c) w := by
      have b1 : ∀ (j : Nat) (k : IntKind) (y : Nat) (cd : BoundsCode), j ≤ y → (Instr.sliceBound (.int k (j : Int)) y cd).run P w = .ok j w := by
        intro j k y cd hj
        have : (j : Int) ≤ (y : Int) := by omega
        simp [Instr.sliceBound, asIntOf, this]
      cases lo with
      | none =>
        simp only at hlo
        subst hlo
        cases hi with
        | none => simp only at hhi; subst hhi; simp [Instr.sliceBounds, q1]
        | some o =>
          obtain ⟨k, j, h3, h4⟩ := hhi
          subst h4
          simp [Instr.sliceBounds, hρ _ _ h3, b1 h k s.c _ (by omega)]
      | some o' =>
        obtain ⟨k', j', h5, h6⟩ := hlo
        subst h6
        cases hi with
        | none => simp only at hhi; subst hhi; simp [Instr.sliceBounds, hρ _ _ h5, b1 l k' xs.length _ (by omega), q1]
        | some o =>
          obtain ⟨k, j, h3, h4⟩ := hhi
          subst h4
          simp [Instr.sliceBounds, hρ _ _ h3, hρ _ _ h5, b1 h k s.c _ (by omega), b1 l k' h _ (by omega)]
    simp only [execOp, hρ _ _ hx, Instr.sliceAt, SV.val, Option.map_none, Sem.run_bind, run_und (T := T), Result.andThen_ok]
    simp only [Instr.slice, Sem.run_bind, run_und (T := T), Result.andThen_ok, e1, run_sizeOf (T := E) (s := e.sz), Sem.run_pure]
    rfl
end
end Go.Sx
