import Derived.Test.YtniphaoadhojlaaGreatDoorSxG
import Derived.LaidEql
import Derived.LaidEqlPtr
import Derived.Laws.Strings
set_option linter.all false
namespace Go.Sx
open Go

/-- Block b holds some cells, none of them frozen. -/
class HasC (H : Heap) (b : Nat) : Prop where
  mem : ∀ L, Sep H L → ∃ C E, (b, Obj.cells C E (0, 0)) ∈ L
instance HasC.tail {A : Hp} {H : Heap} {b : Nat} [h : HasC H b] : HasC (A :: H) b :=
  ⟨fun L hL => by obtain ⟨L1, L2, rfl, _, h2⟩ := hL; obtain ⟨C, E, hm⟩ := h.mem _ h2; exact ⟨C, E, List.mem_append_right _ hm⟩⟩
theorem HasC.get {G : Base} {w : World} {H : Heap} {b : Nat} (h : HasC H b) (hs : Sat G w H) : ∃ C E, w.heap[b]? = some (.cells C E (0, 0)) := by
  obtain ⟨_, L, hL, hl⟩ := hs
  obtain ⟨C, E, hm⟩ := h.mem L hL
  exact ⟨C, E, hl.at_ _ hm⟩

/-- Error number i, as a value. -/
def Base.err (G : Base) (i : Nat) : Value := .iface G.eT (.pointer (some ⟨G.eb i, G.eo i, none⟩))
instance {G : Base} {i : Nat} : OneV (G.err i) := ⟨rfl⟩

/-! ## Structs put together -/
class NthC (l : List (Nat × Nat)) (i : Nat) (x : outParam (Nat × Nat)) : Prop where
  out : l[i]? = some x
instance {x : Nat × Nat} {l : List (Nat × Nat)} : NthC (x :: l) 0 x := ⟨rfl⟩
instance {y x : Nat × Nat} {l : List (Nat × Nat)} {n : Nat} [h : NthC l n x] : NthC (y :: l) (n + 1) x := ⟨by simpa using h.out⟩
class LenC (l : List Value) (n : Nat) : Prop where
  out : l.length = n
instance : LenC [] 0 := ⟨rfl⟩
instance {x : Value} {l : List Value} {n : Nat} [h : LenC l n] : LenC (x :: l) (n + 1) := ⟨by simp [h.out]⟩
class Fil (places : List (Nat × Nat)) (l : List Value) (ps : List (Nat × Value)) (l' : outParam (List Value)) : Prop where
  out : Instr.fill (fun i => places[i]?) l.toArray ps = some l'.toArray
instance Fil.nil {places : List (Nat × Nat)} {l : List Value} : Fil places l [] l := ⟨rfl⟩
instance Fil.cons {places : List (Nat × Nat)} {l : List Value} {i : Nat} {v : Value} {ps : List (Nat × Value)} {off n : Nat} {cs l1 l' : List Value} [h1 : NthC places i (off, n)] [h2 : Cells v cs] [h3 : LenC cs n] [h4 : Spl l off cs l1] [h5 : Fil places l1 ps l'] : Fil places l ((i, v) :: ps) l' :=
  ⟨by
    have hf := h4.fit
    have e1 : (cs.toArray.zipIdx.foldl (fun a (y : Value × Nat) => a.setIfInBounds (off + y.2) y.1) l.toArray) = l1.toArray := by
      rw [← Array.foldl_toList]
      have := foldl_put cs l.toArray off 0
      rw [show cs.toArray.zipIdx.toList = cs.zipIdx 0 by simp, this]
      have h6 := h4.out l.toArray (by simp)
      apply Array.ext'
      simpa using h6
    simp only [Instr.fill, h1.out, h2.out]
    rw [if_neg (by simp [h3.out]; have := h3.out; omega)]
    have := h5.out
    rw [← e1] at this
    exact this⟩

/-- A struct's type: where its fields lie, and its zero value's cells. -/
class Str (P : Program) (T : TypeId) (places : outParam (List (Nat × Nat))) (z : outParam (List Value)) : Prop where
  out : ∃ fields i zv, P.underlying T = some (.struct fields) ∧ (∀ w, (fields.mapM fun (f : Field) => (do pure (f.offset, ← sizeOf f.type) : Sem (Nat × Nat))).run P w = .ok places.toArray w) ∧ P.info? T = some i ∧ i.zero = some zv ∧ zv.cells = z.toArray

section
variable {G : Base} {P : Program} {N : Nat} {Q : Post} {t : Tm} {H : Heap} {dst : Option Tmp} {ty : TypeId} {pos : String} {after : Array Edge} {g : Option (Nat × Bool)}

theorem ev_build {T : TypeId} {ps : List (Nat × Operand)} {vs : List (Nat × Value)} {places : List (Nat × Nat)} {z l : List Value} (hp : evps t ps = some vs) [hs : Str P T places z] [hf : Fil places z vs l] :
    Ev G P ⟨dst, .build T ps.toArray, ty, pos, after, g⟩ t H (.agg l.toArray) :=
  fun ρ hρ w _ => by
    obtain ⟨fields, i, zv, h1, h2, h3, h4, h5⟩ := hs.out
    have e1 : (underlying T).run P w = .ok (.struct fields) w := by simp [underlying, h1]
    have e2 : (zeroValue T).run P w = .ok zv w := by simp [zeroValue, typeInfo, h3, h4]
    have e3 : (ps.toArray.map fun (i, x) => (i, ρ x)).toList = vs := by simp [evps_map hρ hp]
    have hfo := hf.out
    have e4 : (fun (i : Nat) => places.toArray[i]?) = fun (i : Nat) => places[i]? := by funext i; simp
    simp only [execOp, Instr.build, Sem.run_bind, e1, e2, h2, Result.andThen_ok, e3, h5, e4, hfo, Sem.run_pure]

/-! ## Comparisons with nil, and of errors -/
theorem run_guard_nil {op : BinOp} {T : TypeId} {x y : Operand} {w : World} {a b : Value} (h : (match x with | .const _ => true | _ => false) = true ∨ (match y with | .const _ => true | _ => false) = true) (ha : ∀ c, a ≠ .agg c) : (eqGuard op T x y a b).run P w = .ok () w := by
  unfold eqGuard
  cases op <;> simp only [Bool.not_true, Bool.not_false, Bool.false_eq_true, ↓reduceIte, Sem.run_pure]
  all_goals
    cases a <;> first
      | exact absurd rfl (ha _)
      | (cases b <;> first
          | rfl
          | (cases x <;> cases y <;> simp at h <;> rfl))
theorem run_equal {T : TypeId} {x y : Value} {r : Bool} {w : World} (h : ∀ d, (Op.equalIn (d + 1) T x y).run P w = .ok r w) : (Op.equal T x y).run P w = .ok r w := h 9999
theorem ev_eql_nil_nil {T U : TypeId} {x : Operand} {ms : Array (String × TypeId)} [hT : Und P T (.interface ms)] (hx : evo t x = some .nilIface) : Ev G P ⟨dst, .binOp .eql T x (.const .nilIface) U, ty, pos, after, g⟩ t H (.bool true) :=
  fun ρ hρ w _ => by
    have h1 := run_guard_nil (P := P) (op := .eql) (T := T) (x := x) (y := .const .nilIface) (w := w) (a := .nilIface) (b := .nilIface) (.inr rfl) (fun c h => by cases h)
    have h2 := run_equal (P := P) (w := w) (T := T) (x := .nilIface) (y := .nilIface) (r := true) (fun d => by simp only [Op.equalIn, Sem.run_bind, run_und (T := T), Result.andThen_ok, Sem.run_pure])
    simp only [execOp, hρ _ _ hx, hρ (.const .nilIface) _ rfl, Sem.run_bind, h1, Result.andThen_ok, binOp, h2, Sem.run_pure]
theorem ev_neq_nil_nil {T U : TypeId} {x : Operand} {ms : Array (String × TypeId)} [hT : Und P T (.interface ms)] (hx : evo t x = some .nilIface) : Ev G P ⟨dst, .binOp .neq T x (.const .nilIface) U, ty, pos, after, g⟩ t H (.bool false) :=
  fun ρ hρ w _ => by
    have h1 := run_guard_nil (P := P) (op := .neq) (T := T) (x := x) (y := .const .nilIface) (w := w) (a := .nilIface) (b := .nilIface) (.inr rfl) (fun c h => by cases h)
    have h2 := run_equal (P := P) (w := w) (T := T) (x := .nilIface) (y := .nilIface) (r := true) (fun d => by simp only [Op.equalIn, Sem.run_bind, run_und (T := T), Result.andThen_ok, Sem.run_pure])
    simp only [execOp, hρ _ _ hx, hρ (.const .nilIface) _ rfl, Sem.run_bind, h1, Result.andThen_ok, binOp, h2, Sem.run_pure, Bool.not_true]
theorem ev_eql_nil_val {T U u : TypeId} {x : Operand} {v : Value} {ms : Array (String × TypeId)} [hT : Und P T (.interface ms)] (hx : evo t x = some (.iface u v)) : Ev G P ⟨dst, .binOp .eql T x (.const .nilIface) U, ty, pos, after, g⟩ t H (.bool false) :=
  fun ρ hρ w _ => by
    have h1 := run_guard_nil (P := P) (op := .eql) (T := T) (x := x) (y := .const .nilIface) (w := w) (a := .iface u v) (b := .nilIface) (.inr rfl) (fun c h => by cases h)
    have h2 := run_equal (P := P) (w := w) (T := T) (x := .iface u v) (y := .nilIface) (r := false) (fun d => by simp only [Op.equalIn, Sem.run_bind, run_und (T := T), Result.andThen_ok, Sem.run_pure])
    simp only [execOp, hρ _ _ hx, hρ (.const .nilIface) _ rfl, Sem.run_bind, h1, Result.andThen_ok, binOp, h2, Sem.run_pure]
theorem ev_neq_nil_val {T U u : TypeId} {x : Operand} {v : Value} {ms : Array (String × TypeId)} [hT : Und P T (.interface ms)] (hx : evo t x = some (.iface u v)) : Ev G P ⟨dst, .binOp .neq T x (.const .nilIface) U, ty, pos, after, g⟩ t H (.bool true) :=
  fun ρ hρ w _ => by
    have h1 := run_guard_nil (P := P) (op := .neq) (T := T) (x := x) (y := .const .nilIface) (w := w) (a := .iface u v) (b := .nilIface) (.inr rfl) (fun c h => by cases h)
    have h2 := run_equal (P := P) (w := w) (T := T) (x := .iface u v) (y := .nilIface) (r := false) (fun d => by simp only [Op.equalIn, Sem.run_bind, run_und (T := T), Result.andThen_ok, Sem.run_pure])
    simp only [execOp, hρ _ _ hx, hρ (.const .nilIface) _ rfl, Sem.run_bind, h1, Result.andThen_ok, binOp, h2, Sem.run_pure, Bool.not_false]
/-- A pointer against nil. -/
theorem ev_eql_ptr_nil {T U E : TypeId} {x : Operand} {p : Option Addr} [hT : Und P T (.pointer E)] (hx : evo t x = some (.pointer p)) : Ev G P ⟨dst, .binOp .eql T x (.const (.pointer none)) U, ty, pos, after, g⟩ t H (.bool p.isNone) :=
  fun ρ hρ w _ => by
    have h1 := run_guard_nil (P := P) (op := .eql) (T := T) (x := x) (y := .const (.pointer none)) (w := w) (a := .pointer p) (b := .pointer none) (.inr rfl) (fun c h => by cases h)
    have h2 := run_equal (P := P) (w := w) (T := T) (x := .pointer p) (y := .pointer none) (r := p.isNone) (fun d => by cases p <;> simp only [Op.equalIn, Sem.run_bind, run_und (T := T), Result.andThen_ok, Sem.run_pure, Option.isNone])
    cases p <;> simp only [execOp, hρ _ _ hx, hρ (.const (.pointer none)) _ rfl, Sem.run_bind, h1, Result.andThen_ok, binOp, h2, Sem.run_pure] <;> rfl
theorem ev_neq_ptr_nil {T U E : TypeId} {x : Operand} {p : Option Addr} [hT : Und P T (.pointer E)] (hx : evo t x = some (.pointer p)) : Ev G P ⟨dst, .binOp .neq T x (.const (.pointer none)) U, ty, pos, after, g⟩ t H (.bool p.isSome) :=
  fun ρ hρ w _ => by
    have h1 := run_guard_nil (P := P) (op := .neq) (T := T) (x := x) (y := .const (.pointer none)) (w := w) (a := .pointer p) (b := .pointer none) (.inr rfl) (fun c h => by cases h)
    have h2 := run_equal (P := P) (w := w) (T := T) (x := .pointer p) (y := .pointer none) (r := p.isNone) (fun d => by cases p <;> simp only [Op.equalIn, Sem.run_bind, run_und (T := T), Result.andThen_ok, Sem.run_pure, Option.isNone])
    cases p <;> simp only [execOp, hρ _ _ hx, hρ (.const (.pointer none)) _ rfl, Sem.run_bind, h1, Result.andThen_ok, binOp, h2, Sem.run_pure] <;> rfl

/-- Two errors. -/
theorem ev_eql_err {T U E : TypeId} {x y : Operand} {i j : Nat} {ms : Array (String × TypeId)} {sz bb : Nat} {z : Value} [hT : Und P T (.interface ms)] [hE : Und P G.eT (.pointer E)] [hi : Inf P E sz bb z] (hc : ∃ k, P.info? G.eT = some k ∧ k.comparable = true) (hsz : sz ≠ 0) (hinj : ∀ a b, G.eb a = G.eb b → G.eo a = G.eo b → a = b) [h1 : HasC H (G.eb i)] [h2 : HasC H (G.eb j)]
    (hx : evo t x = some (G.err i)) (hy : evo t y = some (G.err j)) : Ev G P ⟨dst, .binOp .eql T x y U, ty, pos, after, g⟩ t H (.bool (decide (i = j))) :=
  fun ρ hρ w hw => by
    obtain ⟨k, hk1, hk2⟩ := hc
    obtain ⟨inf, hi1, hi2, _⟩ := hi.out
    have hg : (eqGuard .eql T x y (G.err i) (G.err j)).run P w = .ok () w := by simp [eqGuard, Base.err]
    simp only [execOp, hρ _ _ hx, hρ _ _ hy, Sem.run_bind, hg, Result.andThen_ok]
    by_cases e : i = j
    · subst e
      have := run_eql_iface_ptr_same (P := P) (w := w) (ti := T) (tp := G.eT) (te := E) (i := k) (j := inf) ⟨G.eb i, G.eo i, none⟩ hT.out hE.out hk1 hk2 hi1
      simp only [Base.err, this, Result.andThen_ok, Sem.run_pure, decide_true]
    · obtain ⟨C1, E1, q1⟩ := h1.get hw
      obtain ⟨C2, E2, q2⟩ := h2.get hw
      have hne : (⟨G.eb i, G.eo i, none⟩ : Addr) ≠ ⟨G.eb j, G.eo j, none⟩ := fun h => e (hinj _ _ (by injection h) (by injection h))
      have := run_eql_iface_ptr_other (P := P) (w := w) (ti := T) (tp := G.eT) (te := E) (i := k) (j := inf) (a := ⟨G.eb i, G.eo i, none⟩) (b := ⟨G.eb j, G.eo j, none⟩) hT.out hE.out hk1 hk2 hi1 (by rw [hi2]; exact hsz) hne q1 q2
      simp only [Base.err, this, Result.andThen_ok, Sem.run_pure, decide_eq_false e]

/-! ## Strings -/
theorem ba_beq (a b : ByteArray) : (a.toList == b.toList) = decide (byts a = byts b) := by
  rw [Bool.eq_iff_iff]
  simp only [beq_iff_eq, decide_eq_true_eq, byts_inj, ByteArray.toList_eq]
  exact ⟨fun h => ByteArray.ext (Array.toList_inj.mp h), fun h => by rw [h]⟩
theorem ev_eql_str {T U : TypeId} {x y : Operand} {a b : ByteArray} (hx : evo t x = some (.string a)) (hy : evo t y = some (.string b)) : Ev G P ⟨dst, .binOp .eql T x y U, ty, pos, after, g⟩ t H (.bool (decide (byts a = byts b))) :=
  fun ρ hρ w _ => by
    simp only [execOp, hρ _ _ hx, hρ _ _ hy, eqGuard, binOp, Op.stringOp, ba_beq]
    rfl
theorem ev_neq_str {T U : TypeId} {x y : Operand} {a b : ByteArray} (hx : evo t x = some (.string a)) (hy : evo t y = some (.string b)) : Ev G P ⟨dst, .binOp .neq T x y U, ty, pos, after, g⟩ t H (.bool (!decide (byts a = byts b))) :=
  fun ρ hρ w _ => by
    simp only [execOp, hρ _ _ hx, hρ _ _ hy, eqGuard, binOp, Op.stringOp, ba_beq]
    rfl
theorem ev_add_str {T U : TypeId} {x y : Operand} {a b : ByteArray} (hx : evo t x = some (.string a)) (hy : evo t y = some (.string b)) (h : a.size + b.size ≤ 9223372036854775807) : Ev G P ⟨dst, .binOp .add T x y U, ty, pos, after, g⟩ t H (.string (a ++ b)) :=
  fun ρ hρ w _ => by
    have h1 : ¬ (((a.size + b.size : Nat) : Int) > IntKind.i64.max) := by
      simp only [IntKind.max, IntKind.signed, IntKind.bits]; simp; omega
    simp only [execOp, hρ _ _ hx, hρ _ _ hy, eqGuard, binOp, Op.stringOp, h1]
    rfl
theorem ev_index_str {T : TypeId} {x ix : Operand} {s : ByteArray} {k : IntKind} {j : Int} (hx : evo t x = some (.string s)) (hi : evo t ix = some (.int k j)) [hT : Und P T .string] (i : Nat) (hj : j = i) (y : Nat) (hy : (byts s)[i]? = some y) :
    Ev G P ⟨dst, .index T x ix, ty, pos, after, g⟩ t H (.int .u8 (y : Int)) :=
  fun ρ hρ w _ => by
    have h1 : s[i]? = some (UInt8.ofNat y) ∧ y < 256 := by
      simp only [byts, List.getElem?_map, Array.getElem?_toList, Option.map_eq_some_iff] at hy
      obtain ⟨b, hb, rfl⟩ := hy
      obtain ⟨hlt, he⟩ := Array.getElem?_eq_some_iff.1 hb
      refine ⟨?_, b.toNat_lt⟩
      rw [getElem?_pos s i hlt]
      congr 1
      show s.data[i] = _
      rw [he]; simp
    have h0 : (0 : Int) ≤ (i : Int) := by omega
    simp [execOp, hρ _ _ hx, hρ _ _ hi, Instr.index, asIntOf, hj, run_und (T := T), h1.1, Nat.mod_eq_of_lt h1.2]
theorem byts_extract (s : ByteArray) (l h : Nat) : byts (s.extract l h) = ((byts s).take h).drop l := by
  simp [byts, List.map_drop, List.map_take, ByteArray.data_extract, List.drop_take]
theorem ev_slice_str {T : TypeId} {x : Operand} {lo hi : Option Operand} {s : ByteArray} (hx : evo t x = some (.string s)) [hT : Und P T .string]
    (l h : Nat) (hlo : match lo with | none => l = 0 | some o => ∃ k j, evo t o = some (.int k j) ∧ j = (l : Int)) (hhi : match hi with | none => h = s.size | some o => ∃ k j, evo t o = some (.int k j) ∧ j = (h : Int)) (h1 : l ≤ h) (h2 : h ≤ s.size) :
    Ev G P ⟨dst, .slice T x lo hi none, ty, pos, after, g⟩ t H (.string (s.extract l h)) :=
  fun ρ hρ w _ => by
    have e1 : (Instr.sliceBounds false s.size s.size (lo.map ρ) (hi.map ρ) none).run P w = .ok (l, h, s.size) w := by
      have b1 : ∀ (j : Nat) (k : IntKind) (y : Nat) (cd : BoundsCode), j ≤ y → (Instr.sliceBound (.int k (j : Int)) y cd).run P w = .ok j w := by
        intro j k y cd hj
        have : (j : Int) ≤ (y : Int) := by omega
        simp [Instr.sliceBound, asIntOf, this]
      cases lo with
      | none =>
        simp only at hlo
        subst hlo
        cases hi with
        | none => simp only at hhi; subst hhi; simp [Instr.sliceBounds]
        | some o =>
          obtain ⟨k, j, h3, h4⟩ := hhi
          subst h4
          simp [Instr.sliceBounds, hρ _ _ h3, b1 h k s.size _ (by omega)]
      | some o' =>
        obtain ⟨k', j', h5, h6⟩ := hlo
        subst h6
        cases hi with
        | none => simp only at hhi; subst hhi; simp [Instr.sliceBounds, hρ _ _ h5, b1 l k' s.size _ (by omega)]
        | some o =>
          obtain ⟨k, j, h3, h4⟩ := hhi
          subst h4
          simp [Instr.sliceBounds, hρ _ _ h3, hρ _ _ h5, b1 h k s.size _ (by omega), b1 l k' h _ (by omega)]
    simp only [execOp, hρ _ _ hx, Instr.sliceAt, Option.map_none, Sem.run_bind, run_und (T := T), Result.andThen_ok]
    simp only [Instr.slice, Sem.run_bind, run_und (T := T), Result.andThen_ok, e1, Sem.run_pure, Option.isSome_none, Bool.false_eq_true, ↓reduceIte]

/-! ## Tables -/
theorem ev_indexAddr_arr {T E : TypeId} {x ix : Operand} {b off n sz bb : Nat} {z : Value} {k : IntKind} {j : Int} (hx : evo t x = some (.pointer (some ⟨b, off, none⟩))) (hi : evo t ix = some (.int k j)) [hT : Und P T (.array n E)] [hE : Inf P E sz bb z] (i : Nat) (hj : j = i) (hlt : i < n) :
    Ev G P ⟨dst, .indexAddr T x ix, ty, pos, after, g⟩ t H (.pointer (some ⟨b, off + i * sz, none⟩)) :=
  fun ρ hρ w _ => by
    have h5 : ¬ (n ≤ i) := by omega
    simp [execOp, hρ _ _ hx, hρ _ _ hi, Instr.indexAt, asIntOf, hj, run_und (T := T), Instr.sureAddr, run_sizeOf (T := E) (s := sz), add_none, h5]
theorem ev_load_at {T : TypeId} {x : Operand} {b off : Nat} {l : List Value} {v : Value} (hx : evo t x = some (.pointer (some ⟨b, off, none⟩))) [hT : One P T] [hH : HasV H b l] (hv : l[off]? = some v) :
    Ev G P ⟨dst, .load T x, ty, pos, after, g⟩ t H v :=
  fun ρ hρ w hw => by
    obtain ⟨E, fz, hb⟩ := hH.get hw
    have h1 : w.cell? ⟨b, off, none⟩ = some v := by rw [cell_of hb]; simpa using hv
    simp [execOp, hρ _ _ hx, Instr.loadAt, Instr.sureAddr, loadVar, run_isAgg_one, h1]

/-! ## Results -/
/-- What a result's variable holds. -/
inductive ResV (P : Program) (t : Tm) (H : Heap) : ResultVar → Value → Prop
  | tmp {r : Tmp} {v : Value} (h : look t r = some v) : ResV P t H (.tmp r) v
  | cell {r : Tmp} {T : TypeId} {b n : Nat} {l : List Value} (h : look t r = some (.pointer (some ⟨b, 0, none⟩))) [hT : Agg P T n] [hH : HasV H b l] (hn : l.length = n) : ResV P t H (.cell r T) (.agg l.toArray)
  | cell1 {r : Tmp} {T : TypeId} {b : Nat} {v : Value} (h : look t r = some (.pointer (some ⟨b, 0, none⟩))) [hT : One P T] [hH : HasV H b [v]] : ResV P t H (.cell r T) v
inductive ResVs (P : Program) (t : Tm) (H : Heap) : List ResultVar → List Value → Prop
  | nil : ResVs P t H [] []
  | cons {r : ResultVar} {rs : List ResultVar} {v : Value} {vs : List Value} (h : ResV P t H r v) (h2 : ResVs P t H rs vs) : ResVs P t H (r :: rs) (v :: vs)

def resOf : List Value → Value
  | [v] => v
  | vs => .tuple vs.toArray

theorem res_intro {fn : Func} {K : Value → Heap → Prop} {e : Exit} {rs : List ResultVar} {vs : List Value} (hfn : fn.results = rs.toArray) (he : e = .normal ∨ e = .ret) (hr : ResVs P t H rs vs) (hK : K (resOf vs) H) : ResQ P fn K e t H := by
  refine ⟨he, resOf vs, hK, fun G N a w ha hw => ?_⟩
  let f : ResultVar → Sem Value := fun
    | .tmp t => pure (a.tmps.getD t undef)
    | .cell r t => do loadVar t (← asAddr (a.tmps.getD r undef))
  have hget : ∀ (r : Tmp) (v : Value), look t r = some v → a.tmps.getD r undef = v := fun r v h => by
    rw [Array.getD_eq_getD_getElem?, ha.look r v h]; rfl
  have one : ∀ r v, ResV P t H r v → (f r).run P w = .ok v w := by
    intro r v h
    cases h with
    | tmp h => simp only [f, Sem.run_pure, hget _ _ h]
    | @cell r T b n l h hT hH hn =>
      obtain ⟨E, fz, hb⟩ := hH.get hw
      have h1 := run_loadCells_blk (P := P) (o := 0) hb l (fun j v hv => by simpa using hv)
      rw [hn] at h1
      simp only [f, hget _ _ h, asAddr, Sem.run_bind, Sem.run_pure, Result.andThen_ok, loadVar, run_isAgg (n := n), ↓reduceIte, run_sizeOf_agg (n := n), h1]
    | @cell1 r T b v h hT hH =>
      obtain ⟨E, fz, hb⟩ := hH.get hw
      have h1 : w.cell? ⟨b, 0, none⟩ = some v := by rw [cell_of hb]; rfl
      simp only [f, hget _ _ h, asAddr, Sem.run_bind, Sem.run_pure, Result.andThen_ok, loadVar, run_isAgg_one, Bool.false_eq_true, ↓reduceIte, run_load, h1]
  have all : ∀ rs vs, ResVs P t H rs vs → (rs.mapM f).run P w = .ok vs w := by
    intro rs vs h
    induction h with
    | nil => rfl
    | cons h _ ih => simp only [List.mapM_cons, Sem.run_bind, one _ _ h, Result.andThen_ok, ih, Sem.run_pure]
  have hm : (fn.results.mapM f).run P w = .ok vs.toArray w := by
    rw [hfn, List.mapM_toArray, Sem.run_map, all rs vs hr]
    rfl
  have hfin : (results fn a.tmps).run P w = .ok (if h : vs.toArray.size = 1 then vs.toArray[0] else .tuple vs.toArray) w := by
    show ((fn.results.mapM f) >>= fun vs => pure (if h : vs.size = 1 then vs[0] else .tuple vs)).run P w = _
    rw [Sem.run_bind, hm]; rfl
  rw [hfin]
  congr 1
  match vs with
  | [] => rfl
  | [v] => rfl
  | v :: u :: vs => simp [resOf]
end
end Go.Sx
namespace Go.Sx
open Go
section
variable {G : Base} {P : Program} {N : Nat} {Q : Post} {t : Tm} {H : Heap} {ops : Array Oper} {dst : Option Tmp} {ty : TypeId} {pos : String} {after : Array Edge} {g : Option (Nat × Bool)}

theorem ev_pick_t {a b : Operand} {c : Operand} {va : Value} (hc : evo t c = some (.bool true)) (ha : evo t a = some va) : Ev G P ⟨dst, .pick c a b, ty, pos, after, g⟩ t H va :=
  fun ρ hρ w _ => by simp [execOp, hρ _ _ hc, hρ _ _ ha, asBool]
theorem ev_pick_f {a b : Operand} {c : Operand} {vb : Value} (hc : evo t c = some (.bool false)) (hb : evo t b = some vb) : Ev G P ⟨dst, .pick c a b, ty, pos, after, g⟩ t H vb :=
  fun ρ hρ w _ => by simp [execOp, hρ _ _ hc, hρ _ _ hb, asBool]

/-! ### Unsigned numbers below M -/
section
variable {T U : TypeId} {x y : Operand} {k k' : IntKind} {i j : Int} (M : Nat)
theorem ev_addM (hM : 2 ^ k.bits = M) (hx : evo t x = some (.int k i)) (hy : evo t y = some (.int k j)) (hk : k.signed = false) (a b : Nat) (ha : i = a) (hb : j = b) :
    Ev G P ⟨dst, .binOp .add T x y U, ty, pos, after, g⟩ t H (.int k (((a + b) % M : Nat) : Int)) := by subst hM; exact ev_addu hx hy hk a b ha hb
theorem ev_addL (hM : 2 ^ k.bits = M) (hx : evo t x = some (.int k i)) (hy : evo t y = some (.int k j)) (hk : k.signed = false) (a b : Nat) (ha : i = a) (hb : j = b) (h : a + b < M) :
    Ev G P ⟨dst, .binOp .add T x y U, ty, pos, after, g⟩ t H (.int k ((a + b : Nat) : Int)) := by
  have := ev_addM (G := G) (P := P) (H := H) (dst := dst) (ty := ty) (pos := pos) (after := after) (g := g) (T := T) (U := U) M hM hx hy hk a b ha hb
  rwa [Nat.mod_eq_of_lt h] at this
theorem ev_mulM (hM : 2 ^ k.bits = M) (hx : evo t x = some (.int k i)) (hy : evo t y = some (.int k j)) (hk : k.signed = false) (a b : Nat) (ha : i = a) (hb : j = b) :
    Ev G P ⟨dst, .binOp .mul T x y U, ty, pos, after, g⟩ t H (.int k (((a * b) % M : Nat) : Int)) := by subst hM; exact ev_mulu hx hy hk a b ha hb
theorem ev_subL (hM : 2 ^ k.bits = M) (hx : evo t x = some (.int k i)) (hy : evo t y = some (.int k j)) (hk : k.signed = false) (a b : Nat) (ha : i = a) (hb : j = b) (hle : b ≤ a) (hlt : a < M) :
    Ev G P ⟨dst, .binOp .sub T x y U, ty, pos, after, g⟩ t H (.int k ((a - b : Nat) : Int)) := by subst hM; exact ev_subu hx hy hk a b ha hb hle hlt
theorem ev_andM (hM : 2 ^ k.bits = M) (hx : evo t x = some (.int k i)) (hy : evo t y = some (.int k j)) (hk : k.signed = false) (a b : Nat) (ha : i = a) (hb : j = b) (hla : a < M) (hlb : b < M) :
    Ev G P ⟨dst, .binOp .and T x y U, ty, pos, after, g⟩ t H (.int k ((a &&& b : Nat) : Int)) := by subst hM; exact ev_andu hx hy hk a b ha hb hla hlb
theorem ev_orM (hM : 2 ^ k.bits = M) (hx : evo t x = some (.int k i)) (hy : evo t y = some (.int k j)) (hk : k.signed = false) (a b : Nat) (ha : i = a) (hb : j = b) (hla : a < M) (hlb : b < M) :
    Ev G P ⟨dst, .binOp .or T x y U, ty, pos, after, g⟩ t H (.int k ((a ||| b : Nat) : Int)) := by subst hM; exact ev_oru hx hy hk a b ha hb hla hlb
theorem ev_xorM (hM : 2 ^ k.bits = M) (hx : evo t x = some (.int k i)) (hy : evo t y = some (.int k j)) (hk : k.signed = false) (a b : Nat) (ha : i = a) (hb : j = b) (hla : a < M) (hlb : b < M) :
    Ev G P ⟨dst, .binOp .xor T x y U, ty, pos, after, g⟩ t H (.int k ((a ^^^ b : Nat) : Int)) := by subst hM; exact ev_xoru hx hy hk a b ha hb hla hlb
theorem ev_notM (hM : 2 ^ k.bits = M) (hx : evo t x = some (.int k i)) (hk : k.signed = false) (a : Nat) (ha : i = a) (hla : a < M) :
    Ev G P ⟨dst, .unOp .xor T x, ty, pos, after, g⟩ t H (.int k (((M - 1) ^^^ a : Nat) : Int)) := by subst hM; exact ev_notu hx hk a ha hla
theorem ev_shlM (hM : 2 ^ k.bits = M) (hx : evo t x = some (.int k i)) (hy : evo t y = some (.int k' j)) (hk : k.signed = false) (a b : Nat) (ha : i = a) (hb : j = b) :
    Ev G P ⟨dst, .binOp .shl T x y U, ty, pos, after, g⟩ t H (.int k ((a * 2 ^ b % M : Nat) : Int)) := by subst hM; exact ev_shlu hx hy hk a b ha hb
theorem ev_shlL (hM : 2 ^ k.bits = M) (hx : evo t x = some (.int k i)) (hy : evo t y = some (.int k' j)) (hk : k.signed = false) (a b : Nat) (ha : i = a) (hb : j = b) (h : a * 2 ^ b < M) :
    Ev G P ⟨dst, .binOp .shl T x y U, ty, pos, after, g⟩ t H (.int k ((a * 2 ^ b : Nat) : Int)) := by
  have := ev_shlM (G := G) (P := P) (H := H) (dst := dst) (ty := ty) (pos := pos) (after := after) (g := g) (T := T) (U := U) M hM hx hy hk a b ha hb
  rwa [Nat.mod_eq_of_lt h] at this
theorem ev_convM {ds : TypeDesc} [hs : Und P T ds] [hd : Und P U (.int k')] (hM : 2 ^ k'.bits = M) (hx : evo t x = some (.int k i)) (hk : k'.signed = false) (a : Nat) (ha : i = a) :
    Ev G P ⟨dst, .convert T U x, ty, pos, after, g⟩ t H (.int k' ((a % M : Nat) : Int)) := by subst hM; exact ev_convu hx hk a ha
theorem ev_convL {ds : TypeDesc} [hs : Und P T ds] [hd : Und P U (.int k')] (hM : 2 ^ k'.bits = M) (hx : evo t x = some (.int k i)) (hk : k'.signed = false) (a : Nat) (ha : i = a) (h : a < M) :
    Ev G P ⟨dst, .convert T U x, ty, pos, after, g⟩ t H (.int k' ((a : Nat) : Int)) := by
  have := ev_convM (G := G) (P := P) (H := H) (dst := dst) (ty := ty) (pos := pos) (after := after) (g := g) (T := T) (U := U) (k' := k') M hM hx hk a ha
  rwa [Nat.mod_eq_of_lt h] at this
end

/-- A part of a slice, under a name: known in the part F of the heap. -/
theorem o_slice {l : List Oper} {T E : TypeId} {x : Operand} {lo hi : Option Operand} {s : SV} {α : Type} {e : Enc α} {xs : List α} {bb : Nat} {z : Value} (F : Heap) (hx : evo t x = some s.val) [hF : Sl F s e xs] [hT : Und P T (.slice E)] [hE : Inf P E e.sz bb z] [hs : Sl H s e xs]
    (a b : Nat) (hlo : match lo with | none => a = 0 | some o => ∃ k j, evo t o = some (.int k j) ∧ j = (a : Int)) (hhi : match hi with | none => b = xs.length | some o => ∃ k j, evo t o = some (.int k j) ∧ j = (b : Int)) (h1 : a ≤ b) (h2 : b ≤ xs.length) (hd : fits N dst = true)
    (hk : ∀ s' : SV, Sl F s' e ((xs.take b).drop a) → O G P N ops l Q (put t dst s'.val) H) : O G P N ops (⟨dst, .slice T x lo hi none, ty, pos, after, none⟩ :: l) Q t H :=
  o_ev (ev_slice hx a b hlo hhi h1 h2) hd (hk _ (Sl.cut hF h1 h2))
end
end Go.Sx
