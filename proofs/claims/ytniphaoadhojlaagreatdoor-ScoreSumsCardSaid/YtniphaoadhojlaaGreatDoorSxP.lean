import Derived.Test.YtniphaoadhojlaaGreatDoorSxX
import Derived.Test.YtniphaoadhojlaaGreatDoorP51
set_option linter.all false
namespace Go.Sx
open Go

/-! ## Words in rows; slices that reach into their capacity -/
def eU : Enc Nat := ⟨fun n => [.int .u64 (n : Int)], 1, false, fun _ => rfl, fun _ v h => by simp at h; subst h; rfl, by decide, fun _ => rfl, by decide⟩
instance {n : Nat} : EncV eU (.int .u64 ((n : Nat) : Int)) n := ⟨rfl⟩
instance (priority := low) {n : Nat} : EncV eU (.int .u64 (@OfNat.ofNat Int n instOfNat)) n := ⟨rfl⟩
instance {n : Nat} : EncW eU n (.int .u64 (n : Int)) := ⟨rfl⟩
/-- The slice of n elements at the beginning of a row. -/
def SV.up (F : SV) (n : Nat) : SV := ⟨F.a, n, F.c⟩
/-- A row as long as its capacity. -/
structure Full (F : SV) : Prop where
  nc : F.n = F.c
  ad : (F.a = none ∧ F.c = 0) ∨ ∃ b, F.a = some ⟨b, 0, none⟩
  cp : F.c ≤ 281474976710656
theorem Full.nil : Full SV.nil := ⟨rfl, .inl ⟨rfl, rfl⟩, Nat.zero_le _⟩
theorem Full.cut0 {F : SV} (h : Full F) (k : Nat) : F.cut 1 0 k = F.up k := by
  obtain ⟨h1, h2, _⟩ := h
  rcases h2 with ⟨h2, h3⟩ | ⟨b, h2⟩
  · simp [SV.cut, SV.up, h2, h3]
  · simp [SV.cut, SV.up, h2, Addr.add]
theorem Full.self {F : SV} (h : Full F) : F.up F.c = F := by
  obtain ⟨h1, _, _⟩ := h
  cases F; simp only at h1; subst h1; rfl
theorem Full.some {F : SV} (h : Full F) (hc : 0 < F.c) : ∃ b off, F.a = some ⟨b, off, none⟩ := by
  obtain ⟨_, h2, _⟩ := h
  rcases h2 with ⟨_, h3⟩ | ⟨b, h2⟩
  · omega
  · exact ⟨b, 0, h2⟩
theorem cut_elt {s : SV} {lo hi j : Nat} (h : lo < s.c) : (s.cut 1 lo hi).elt 1 j 0 = s.elt 1 (lo + j) 0 := by
  have h2 : ¬ s.c = lo := by omega
  simp only [SV.cut, SV.elt, if_neg h2, Option.map_map]
  cases s.a with
  | none => rfl
  | some a =>
    by_cases h0 : lo = 0
    · subst h0; simp [Addr.add]
    · simp [Addr.add, h0, Nat.add_assoc]
theorem up_cut (F : SV) (n lo hi : Nat) : (F.up n).cut 1 lo hi = F.cut 1 lo hi := rfl
theorem up_up (F : SV) (n m : Nat) : (F.up n).up m = F.up m := rfl
theorem up_elt (F : SV) (n i : Nat) : (F.up n).elt 1 i 0 = F.elt 1 i 0 := rfl
theorem nil_up : SV.nil.up 0 = SV.nil := rfl
theorem Sl.up {H : Heap} {F : SV} {α : Type} {e : Enc α} {xs : List α} (h : Sl H F e xs) (hn : F.n = F.c) {n : Nat} (hl : n ≤ xs.length) : Sl H (F.up n) e (xs.take n) := by
  refine ⟨fun L hL => ?_⟩
  obtain ⟨q1, q2, q3⟩ := h.out L hL
  refine ⟨by simp [SV.up]; omega, by simp only [SV.up]; omega, ?_⟩
  rcases q3 with ⟨rfl, q6⟩ | ⟨b, off, C, E, fz, q4, q5, q6, q7⟩
  · exact .inl ⟨by simp, by simp [SV.up, q6]⟩
  · refine .inr ⟨b, off, C, E, fz, q4, q5, q6, fun j v hv => q7 j v ?_⟩
    rw [Enc.all_take] at hv
    have hj := (List.getElem?_eq_some_iff.1 hv).1
    rw [List.length_take] at hj
    rwa [List.getElem?_take_of_lt (by omega)] at hv

theorem evq {G : Base} {P : Program} {o : Oper} {t : Tm} {H : Heap} {u v : Value} (h : Ev G P o t H u) (e : u = v) : Ev G P o t H v := e ▸ h
theorem SC.lss {G : Base} {P : Program} {f : FuncId} {args : List Value} {K : Value → Heap → Prop} {H H' : Heap} (hs : HSub H H') (h : SC G P f args H' K) : SC G P f args H K := h.heap fun _ hw => hs.sat hw
section
variable {G : Base} {P : Program} {N : Nat} {Q : Post} {t : Tm} {H : Heap} {ops : Array Oper} {dst : Option Tmp} {ty : TypeId} {pos : String} {after : Array Edge} {g : Option (Nat × Bool)}
/-- A difference of words that may go below 0. -/
theorem ev_subW {T U : TypeId} {x y : Operand} {i j : Int} (hx : evo t x = some (.int .u64 i)) (hy : evo t y = some (.int .u64 j)) (a b : Nat) (ha : i = a) (hb : j = b) (hlb : b ≤ 18446744073709551616) :
    Ev G P ⟨dst, .binOp .sub T x y U, ty, pos, after, g⟩ t H (.int .u64 (((a + 18446744073709551616 - b) % 18446744073709551616 : Nat) : Int)) :=
  fun ρ hρ w _ => by
    have e : IntKind.u64.wrap ((a : Int) - (b : Int)) = (((a + 18446744073709551616 - b) % 18446744073709551616 : Nat) : Int) := by
      simp only [IntKind.wrap, IntKind.bits, IntKind.signed]
      simp
      omega
    simp only [execOp, hρ _ _ hx, hρ _ _ hy, eqGuard, binOp, Op.intArith, ha, hb]
    simp only [Sem.run_bind, Sem.run_pure, e, ne_eq, not_true_eq_false, ↓reduceIte]
    rfl
/-- cap(x). -/
theorem ev_cap {x : Operand} {T E : TypeId} {s : SV} (hx : evo t x = some s.val) [hT : Und P T (.slice E)] :
    Ev G P ⟨dst, .call ⟨.builtin .cap, #[x], #[T]⟩, ty, pos, after, g⟩ t H (.int .i64 ((s.c : Nat) : Int)) :=
  fun ρ hρ w hw => by
    simp [execOp, resolve, invoke, builtin, Builtin.cap_, hρ _ _ hx, run_und (T := T), SV.val, goInt]
theorem ev_capu {x : Operand} {T E : TypeId} {F : SV} {n : Nat} (hx : evo t x = some (F.up n).val) [hT : Und P T (.slice E)] :
    Ev G P ⟨dst, .call ⟨.builtin .cap, #[x], #[T]⟩, ty, pos, after, g⟩ t H (.int .i64 ((F.c : Nat) : Int)) := ev_cap (s := F.up n) (E := E) hx
/-- The address of an element, by the slice alone. -/
theorem ev_ixv {x ix : Operand} {T E : TypeId} {s : SV} {bb : Nat} {z : Value} {k : IntKind} {j : Int} (hx : evo t x = some s.val) (hi : evo t ix = some (.int k j)) [hT : Und P T (.slice E)] [hE : Inf P E 1 bb z] (ha : ∃ b off, s.a = some ⟨b, off, none⟩)
    (i : Nat) (hj : j = i) (hlt : i < s.n) :
    Ev G P ⟨dst, .indexAddr T x ix, ty, pos, after, g⟩ t H (.pointer (s.elt 1 i 0)) :=
  fun ρ hρ w hw => by
    obtain ⟨b, off, h4⟩ := ha
    have h5 : ¬ (s.n ≤ i) := by omega
    simp [execOp, hρ _ _ hx, hρ _ _ hi, Instr.indexAt, asIntOf, hj, run_und (T := T), SV.val, h4, h5, run_sizeOf (T := E) (s := 1), SV.elt, add_none]
/-- x[lo:hi], within the capacity. -/
theorem ev_slc {T E : TypeId} {x : Operand} {lo hi : Option Operand} {s : SV} {sz bb : Nat} {z : Value} (hx : evo t x = some s.val) [hT : Und P T (.slice E)] [hE : Inf P E sz bb z]
    (l h : Nat) (hlo : match lo with | none => l = 0 | some o => ∃ k j, evo t o = some (.int k j) ∧ j = (l : Int)) (hhi : match hi with | none => h = s.n | some o => ∃ k j, evo t o = some (.int k j) ∧ j = (h : Int)) (h1 : l ≤ h) (h2 : h ≤ s.c) :
    Ev G P ⟨dst, .slice T x lo hi none, ty, pos, after, g⟩ t H (s.cut sz l h).val :=
  fun ρ hρ w hw => by
    have e1 : (Instr.sliceBounds true s.n s.c (lo.map ρ) (hi.map ρ) none).run P w = .ok (l, h, s.c) w := by
      have b1 : ∀ (j : Nat) (k : IntKind) (y : Nat) (cd : BoundsCode), j ≤ y → (Instr.sliceBound (.int k (j : Int)) y cd).run P w = .ok j w := by
        intro j k y cd hj
        have : (j : Int) ≤ (y : Int) := by omega
        simp [Instr.sliceBound, asIntOf, this]
      cases lo with
      | none =>
        simp only at hlo
        subst hlo
        cases hi with
        | none => simp only at hhi; subst hhi; simp [Instr.sliceBounds]
        | some o =>
          obtain ⟨k, j, h3, h4⟩ := hhi
          subst h4
          simp [Instr.sliceBounds, hρ _ _ h3, b1 h k s.c _ (by omega)]
      | some o' =>
        obtain ⟨k', j', h5, h6⟩ := hlo
        subst h6
        cases hi with
        | none => simp only at hhi; subst hhi; simp [Instr.sliceBounds, hρ _ _ h5, b1 l k' s.n _ (by omega)]
        | some o =>
          obtain ⟨k, j, h3, h4⟩ := hhi
          subst h4
          simp [Instr.sliceBounds, hρ _ _ h3, hρ _ _ h5, b1 h k s.c _ (by omega), b1 l k' h _ (by omega)]
    simp only [execOp, hρ _ _ hx, Instr.sliceAt, SV.val, Option.map_none, Sem.run_bind, run_und (T := T), Result.andThen_ok]
    simp only [Instr.slice, Sem.run_bind, run_und (T := T), Result.andThen_ok, e1, run_sizeOf (T := E) (s := sz), Sem.run_pure]
    rfl
/-- z[:k], z[0:k]. -/
theorem ev_slu {T E : TypeId} {x : Operand} {lo hi : Option Operand} {F : SV} {n bb : Nat} {z : Value} (hx : evo t x = some (F.up n).val) [hT : Und P T (.slice E)] [hE : Inf P E 1 bb z] (hF : Full F)
    (k : Nat) (hlo : match lo with | none => True | some o => ∃ k, evo t o = some (.int k 0)) (hhi : match hi with | none => k = n | some o => ∃ k' j, evo t o = some (.int k' j) ∧ j = (k : Int)) (h2 : k ≤ F.c) :
    Ev G P ⟨dst, .slice T x lo hi none, ty, pos, after, g⟩ t H (F.up k).val := by
  rw [← hF.cut0 k, ← up_cut F n]
  refine ev_slc (E := E) hx 0 k ?_ hhi (Nat.zero_le _) h2
  cases lo with
  | none => rfl
  | some o => obtain ⟨k', h⟩ := hlo; exact ⟨k', 0, h, rfl⟩
/-- make([]T, n, c): the row whole. -/
theorem st_makeU {T E : TypeId} {x y : Operand} {bb : Nat} {z : Value} {k k' : IntKind} {i j : Int} [hT : Und P T (.slice E)] [hE : Inf P E 1 bb z] (hx : evo t x = some (.int k i)) (hy : evo t y = some (.int k' j)) (n c : Nat) (hi : i = n) (hj : j = c) (hz : z.cells = #[.int .u64 0]) (hnc : n ≤ c) (hc : bb * c ≤ 281474976710656) (hc2 : c ≤ 281474976710656) :
    St G P ⟨dst, .makeSlice T x y, ty, pos, after, g⟩ t H (fun u H' => ∃ F : SV, u = (F.up n).val ∧ Full F ∧ F.c = c ∧ H' = Row F eU (List.replicate c 0) :: H) :=
  fun ρ hρ w hw => by
    obtain ⟨inf, hi1, hi2, hi3, hi4⟩ := hE.out
    have hwc : IntKind.i64.wrap (c : Int) = c := wrap_in (by omega)
    have hwn : IntKind.i64.wrap (n : Int) = n := wrap_in (by omega)
    have hbc : ((bb : Int) * (c : Int)) = ((bb * c : Nat) : Int) := by simp
    have hr : (execOp ρ ⟨dst, .makeSlice T x y, ty, pos, after, g⟩).run P w = .ok (.value (.slice (some ⟨w.heap.size, 0, none⟩) n c)) { w with heap := w.heap.push (.cells ((Array.range (c * 1)).map ((if c * 1 = 0 then #[] else #[.int .u64 0])[· % (if c * 1 = 0 then #[] else #[.int .u64 0] : Array Value).size]!)) E) } := by
      have h1 : ¬ ((c : Int) < 0) := by omega
      have h2 : ¬ (((bb * c : Nat) : Int) > 2 ^ 48) := by
        have : (2 : Int) ^ 48 = 281474976710656 := rfl
        omega
      have h3 : ¬ ((n : Int) < 0) := by omega
      have h4 : ¬ ((n : Int) > (c : Int)) := by omega
      simp only [execOp, hρ _ _ hx, hρ _ _ hy, Instr.makeSlice, Sem.run_bind, run_und (T := T), Result.andThen_ok, asInt, asIntOf, Sem.run_pure, hi, hj, typeInfo, run_program, hi1, hi3, hwc, hwn, hbc]
      simp only [h1, h2, h3, h4, decide_false, Bool.or_self, Bool.false_eq_true, ↓reduceIte, Sem.run_bind, run_askRoom, Result.andThen_ok, run_sizeOf (T := E) (s := 1), Int.toNat_natCast]
      by_cases h0 : c * 1 = 0
      · simp only [h0, ↓reduceIte, Sem.run_bind, Sem.run_pure, Result.andThen_ok]
        rfl
      · simp only [h0, ↓reduceIte, Sem.run_bind, Sem.run_pure, Result.andThen_ok, run_zero (T := E), hz]
        rfl
    rw [hr]
    refine ⟨_, hw.newRow eU (List.replicate c 0) _ E c c (by simp) (Nat.le_refl _) (by simp [eU]) ?_, ⟨some ⟨w.heap.size, 0, none⟩, c, c⟩, rfl, ⟨rfl, .inr ⟨_, rfl⟩, hc2⟩, rfl, rfl⟩
    intro j v hv
    have hj := (List.getElem?_eq_some_iff.1 hv).1
    rw [eU.all_length, List.length_replicate, show eU.sz = 1 from rfl] at hj
    have h0 : c * 1 ≠ 0 := by omega
    rw [all_replicate eU c 0 j hj] at hv
    simp only [h0, ↓reduceIte, Array.getElem?_map]
    rw [Array.getElem?_range, if_pos hj]
    simp only [Option.map_some]
    have e0 : j % eU.sz = 0 := by rw [show eU.sz = 1 from rfl]; omega
    rw [e0] at hv
    rw [← hv]
    show some _ = some _
    congr 1
    have : j % (#[Value.int .u64 0] : Array Value).size = 0 := by simp; omega
    rw [this]; rfl
/-- []Word{x}: the row whole. -/
theorem st_buildU {T E : TypeId} {bb : Nat} {z : Value} {v1 : Value} {x1 : Operand} {y1 : Nat} [hT : Und P T (.slice E)] [hE : Inf P E 1 bb z] (hx1 : evo t x1 = some v1) [hv1 : EncV eU v1 y1] :
    St G P ⟨dst, .buildSlice T 1 #[(0, x1)], ty, pos, after, g⟩ t H (fun u H' => ∃ F : SV, u = (F.up 1).val ∧ Full F ∧ F.c = 1 ∧ H' = Row F eU [y1] :: H) :=
  fun ρ hρ w hw => by
    have hp : evps t [(0, x1)] = some (eU.parts 0 [y1]) := by simp only [evps, Enc.parts, hx1, hv1.out]
    have h2 : ((#[(0, x1)] : Array (Nat × Operand)).map fun (i, x) => (i, ρ x)).toList = eU.parts 0 [y1] := by
      have := evps_map hρ hp
      simpa using this
    have hf := fill_parts eU [y1] 0 ((Array.range (1 * 1)).map (z.cells[· % z.cells.size]!)) (by simp [eU])
    have hr : (execOp ρ ⟨dst, .buildSlice T 1 #[(0, x1)], ty, pos, after, g⟩).run P w = .ok (.value (.slice (some ⟨w.heap.size, 0, none⟩) 1 1)) { w with heap := w.heap.push (.cells (putAt ((Array.range (1 * 1)).map (z.cells[· % z.cells.size]!)) (0 * eU.sz) (eU.all [y1])) E) } := by
      simp only [execOp, Instr.buildSlice, Sem.run_bind, run_und (T := T), Result.andThen_ok, run_sizeOf (T := E) (s := 1), h2]
      have hnot : ¬ (1 * 1 > 2 ^ 24) := by decide
      have h0 : ¬ (1 * 1 = 0) := by decide
      simp only [hnot, h0, ↓reduceIte, Sem.run_bind, Sem.run_pure, Result.andThen_ok, run_zero (T := E)]
      rw [show eU.sz = 1 from rfl] at hf
      rw [hf]; rfl
    rw [hr]
    refine ⟨_, hw.newRow eU [y1] _ E 1 1 rfl (Nat.le_refl _) ?_ ?_, ⟨some ⟨w.heap.size, 0, none⟩, 1, 1⟩, rfl, ⟨rfl, .inr ⟨_, rfl⟩, (by decide : (1 : Nat) ≤ 281474976710656)⟩, rfl, rfl⟩
    · rw [putAt_size]; simp [eU]
    · intro j v hv
      have hj := (List.getElem?_eq_some_iff.1 hv).1
      rw [eU.all_length] at hj
      rw [putAt_get _ _ _ _ (by simp [Enc.all_length, eU])]
      rw [if_pos (by rw [eU.all_length]; omega)]
      simpa using hv
/-- clear(d[a:b]). -/
theorem st_clear {T E : TypeId} {x : Operand} {s : SV} {bb a b : Nat} {z : Value} {xs : List Nat} {C : Hp → Heap} (hx : evo t x = some (s.cut 1 a b).val) [hT : Und P T (.slice E)] [hE : Inf P E 1 bb z] [hf : FocR H s eU xs C] (h1 : a ≤ b) (h2 : b ≤ xs.length) (hz : z.cells = #[.int .u64 0]) :
    St G P ⟨dst, .call ⟨.builtin .clear, #[x], #[T]⟩, ty, pos, after, g⟩ t H (fun u H' => u = .tuple #[] ∧ H' = C (Row s eU (xs.take a ++ List.replicate (b - a) 0 ++ xs.drop b))) :=
  fun ρ hρ w hw => by
    obtain ⟨L1, M, L2, hl, hM, hB⟩ := hf.split hw
    by_cases hm0 : b - a = 0
    · have hba : b = a := by omega
      subst hba
      have he : xs.take b ++ List.replicate (b - b) 0 ++ xs.drop b = xs := by simp
      rw [he]
      have hr : (execOp ρ ⟨dst, .call ⟨.builtin .clear, #[x], #[T]⟩, ty, pos, after, g⟩).run P w = .ok (.value (.tuple #[])) w := by
        simp only [execOp, resolve, invoke, builtin, List.map_toArray, List.map_cons, List.map_nil, hρ _ _ hx, Sem.run_bind, Sem.run_pure, Result.andThen_ok, Builtin.clear_, List.getElem?_toArray, List.getElem?_cons_zero, List.getElem?_cons_succ, run_und (T := T), SV.val, SV.cut, Nat.sub_self]
        cases h : (if s.c = b then s.a else Option.map (fun x => x.add (b * 1)) s.a) <;> simp
      rw [hr]
      exact ⟨C (Row s eU xs), ⟨hw.1, _, hB _ M hM, hl⟩, rfl, rfl⟩
    · rcases hM with ⟨rfl, rfl, rfl⟩ | ⟨bk, C0, E0, fz, g1, g2, g3, rfl, g5, g6, g7⟩
      · simp at h2; omega
      · have g5' : C0.size = s.c := by rw [g5]; simp [eU]
        have hbw : w.heap[bk]? = some (.cells C0 E0 fz) := hl.at_ (bk, .cells C0 E0 fz) (by simp)
        have hca : ¬ (s.c = a) := by omega
        have hzl : (Builtin.zeroCells z.cells (b - a)).toList = List.replicate (b - a) (.int .u64 0) := by
          rw [hz]
          apply List.ext_getElem?
          intro i
          simp only [Builtin.zeroCells, Array.getElem?_toList, Array.getElem?_map, List.getElem?_replicate]
          by_cases hi : i < b - a
          · rw [Array.getElem?_range, if_pos (by simpa using hi), if_pos hi]
            simp only [Option.map_some]
            congr 1
            have : i % (#[Value.int .u64 0] : Array Value).size = 0 := by simp; omega
            rw [this]; rfl
          · rw [Array.getElem?_range, if_neg (by simpa using hi), if_neg hi]; rfl
        have hone : ∀ v ∈ List.replicate (b - a) (Value.int .u64 0), v.oneCell' = true := fun v hv => by rw [(List.mem_replicate.1 hv).2]; rfl
        have hst := run_storeCells_blk (P := P) (o := a) (List.replicate (b - a) (.int .u64 0)) 0 C0 w hbw (fun j _ h => g6.free j (by rw [List.length_replicate] at h; omega)) (by rw [List.length_replicate]; omega) hone
        have hr : (execOp ρ ⟨dst, .call ⟨.builtin .clear, #[x], #[T]⟩, ty, pos, after, g⟩).run P w = .ok (.value (.tuple #[])) (setBlk w bk (.cells (putAt C0 a (List.replicate (b - a) (.int .u64 0))) E0 fz)) := by
          obtain ⟨m, hm⟩ : ∃ m, b - a = m + 1 := ⟨b - a - 1, by omega⟩
          simp only [execOp, resolve, invoke, builtin, List.map_toArray, List.map_cons, List.map_nil, hρ _ _ hx, Sem.run_bind, Sem.run_pure, Result.andThen_ok, Builtin.clear_, List.getElem?_toArray, List.getElem?_cons_zero, List.getElem?_cons_succ, run_und (T := T), SV.val, SV.cut, hca, ↓reduceIte, g1, Option.map_some, add_none, Nat.zero_add, Nat.mul_one]
          rw [hm] at hst hzl ⊢
          simp only [run_zero (T := E), Sem.run_bind, Result.andThen_ok, hzl]
          simp only [Nat.add_zero] at hst
          rw [hst]; rfl
        rw [hr]
        have hfit : a + (List.replicate (b - a) (Value.int .u64 0)).length ≤ C0.size := by rw [List.length_replicate]; omega
        refine ⟨C (Row s eU (xs.take a ++ List.replicate (b - a) 0 ++ xs.drop b)), ⟨⟨hw.1.os, hw.1.tape, hw.1.output⟩, _, hB _ [(bk, .cells (putAt C0 a (List.replicate (b - a) (.int .u64 0))) E0 fz)] (.inr ⟨bk, _, E0, fz, g1, ?_, g3, rfl, by rw [putAt_size, g5], by rw [putAt_size]; exact g6, ?_⟩), ?_⟩, rfl, rfl⟩
        · simp; omega
        · intro j u hu
          rw [putAt_get _ _ _ _ hfit, List.length_replicate]
          have ea : ∀ l : List Nat, eU.all l = l.map fun n => Value.int .u64 ((n : Nat) : Int) := fun l => by
            induction l with
            | nil => rfl
            | cons x l ih => rw [Enc.all_cons, ih]; rfl
          rw [ea] at hu
          have g7' : ∀ (j : Nat) (v : Value), (xs.map fun n => Value.int .u64 ((n : Nat) : Int))[j]? = some v → C0[j]? = some v := by rw [← ea]; exact g7
          simp only [List.map_append, List.map_take, List.map_drop, List.map_replicate] at hu
          have hlm : (xs.map fun n => Value.int .u64 ((n : Nat) : Int)).length = xs.length := List.length_map _
          by_cases hj : j < a
          · rw [if_neg (by omega)]
            rw [List.append_assoc, List.getElem?_append_left (by rw [List.length_take]; omega), List.getElem?_take_of_lt hj] at hu
            exact g7' j u hu
          · by_cases hj2 : j < b
            · rw [if_pos (by omega)]
              rw [List.append_assoc, List.getElem?_append_right (by rw [List.length_take]; omega), List.length_take, hlm, Nat.min_eq_left (by omega), List.getElem?_append_left (by rw [List.length_replicate]; omega)] at hu
              exact hu
            · rw [if_neg (by omega)]
              rw [List.getElem?_append_right (by rw [List.length_append, List.length_take, List.length_replicate]; omega), List.length_append, List.length_take, List.length_replicate, hlm, Nat.min_eq_left (by omega), List.getElem?_drop] at hu
              exact g7' j u (by rw [← hu]; congr 1; omega)
        · have := Lies.change (w' := setBlk w bk (.cells (putAt C0 a (List.replicate (b - a) (.int .u64 0))) E0 fz)) (L1 := L1) (L2 := L2) (b := bk) (o := .cells C0 E0 fz) (o' := .cells (putAt C0 a (List.replicate (b - a) (.int .u64 0))) E0 fz) (by simpa using hl) (setBlk_get hbw) (fun i hi _ => setBlk_other hi)
          simpa using this
/-- A function that stands for another one. -/
theorem st_twin {f f' : FuncId} {fn : Func} {e : Array Value → Sem Next} {xs : List Operand} {ats : Array TypeId} {vs : List Value} {K : Value → Heap → Prop} (hf : P.funcs[f]? = some fn) (hn : (fn.name == "runtime.NumGoroutine") = false) (hb : fn.body = none) (h1 : Extern.findNext fn = some e) (he : ∀ as w, (e as).run P w = .ok (.enter f' as) w)
    (hx : evos t xs = some vs) (hc : SC G P f' vs H K) : St G P ⟨dst, .call ⟨.value (.func f), xs.toArray, ats⟩, ty, pos, after, g⟩ t H K := by
  intro ρ hρ w hw
  have h3 : ρ (.func f) = .func (.func f) #[] #[] := hρ _ _ rfl
  have h4 : xs.toArray.map ρ = vs.toArray := by rw [List.map_toArray, evos_map hρ hx]
  have : (execOp ρ ⟨dst, .call ⟨.value (.func f), xs.toArray, ats⟩, ty, pos, after, g⟩).run P w = .ok (.enter f' vs.toArray) w := by
    simp only [execOp, resolve, h3, h4, Deferred.ofValue, Sem.run_bind, Sem.run_pure, Result.andThen_ok]
    simp only [invoke, Array.append_empty, Array.empty_append]
    simp only [callFunc, Sem.run_bind, run_program, Result.andThen_ok, hf, hn, hb, h1, Option.isNone_none, ↓reduceIte, Bool.false_eq_true]
    exact he _ _
  rw [this]
  exact hc.call w hw
/-! ## Pointers held against one another -/
theorem run_guard_ptr {op : BinOp} {T : TypeId} {x y : Operand} {w : World} {a b : Option Addr} : (eqGuard op T x y (.pointer a) (.pointer b)).run P w = .ok () w := by
  cases op <;> simp [eqGuard]
theorem ev_eql_ptr {T U E : TypeId} {x y : Operand} {a : Addr} {sz bb : Nat} {z : Value} [hT : Und P T (.pointer E)] [hE : Inf P E sz bb z] (hx : evo t x = some (.pointer (some a))) (hy : evo t y = some (.pointer (some a))) : Ev G P ⟨dst, .binOp .eql T x y U, ty, pos, after, g⟩ t H (.bool true) :=
  fun ρ hρ w _ => by
    obtain ⟨j, hj, _⟩ := hE.out
    simp only [execOp, hρ _ _ hx, hρ _ _ hy, Sem.run_bind, run_guard_ptr, Result.andThen_ok, run_eql_ptr_same w a hT.out hj, Sem.run_pure]
theorem ev_eql_elt {T U E : TypeId} {x y : Operand} {s : SV} {i sz bb : Nat} {z : Value} [hT : Und P T (.pointer E)] [hE : Inf P E sz bb z] (ha : ∃ b off, s.a = some ⟨b, off, none⟩) (hx : evo t x = some (.pointer (s.elt 1 i 0))) (hy : evo t y = some (.pointer (s.elt 1 i 0))) : Ev G P ⟨dst, .binOp .eql T x y U, ty, pos, after, g⟩ t H (.bool true) := by
  obtain ⟨b, off, ha⟩ := ha
  have e : s.elt 1 i 0 = some ⟨b, off + (i * 1 + 0), none⟩ := by simp [SV.elt, ha]
  rw [e] at hx hy
  exact ev_eql_ptr hx hy
instance HasC.head {b : Nat} {l : List Value} : HasC (Vr b l :: H) b := ⟨fun L hL => by
  obtain ⟨L1, L2, rfl, ⟨E, rfl⟩, _⟩ := hL
  exact ⟨l.toArray, E, List.mem_append_left _ (List.mem_singleton.2 rfl)⟩⟩
theorem ev_eql_ptr_other {T U E : TypeId} {x y : Operand} {a b : Nat} {sz bb : Nat} {z : Value} [hT : Und P T (.pointer E)] [hE : Inf P E sz bb z] (hsz : sz ≠ 0) [h1 : HasC H a] [h2 : HasC H b] (hne : a ≠ b) (hx : evo t x = some (.pointer (some ⟨a, 0, none⟩))) (hy : evo t y = some (.pointer (some ⟨b, 0, none⟩))) : Ev G P ⟨dst, .binOp .eql T x y U, ty, pos, after, g⟩ t H (.bool false) :=
  fun ρ hρ w hw => by
    obtain ⟨j, hj, hs, _⟩ := hE.out
    obtain ⟨C1, E1, q1⟩ := h1.get hw
    obtain ⟨C2, E2, q2⟩ := h2.get hw
    simp only [execOp, hρ _ _ hx, hρ _ _ hy, Sem.run_bind, run_guard_ptr, Result.andThen_ok, run_eql_ptr_other w (a := ⟨a, 0, none⟩) (b := ⟨b, 0, none⟩) hT.out hj (by rw [hs]; exact hsz) (fun h => hne (by injection h)) q1 q2, Sem.run_pure]
/-- Two variables are not one. -/
theorem w_ne {c : Code} {R R2 : Heap} {a b : Nat} {l l2 : List Value} [hr : Rem H Vr a l R] [hr2 : Rem R Vr b l2 R2] (h : a ≠ b → W G P N c Q t H) : W G P N c Q t H :=
  ⟨fun a0 w ha hw => (h (by
    obtain ⟨_, L, hL, hl⟩ := hw
    obtain ⟨L', hp, L1, L2, rfl, ⟨E1, rfl⟩, h2⟩ := hr.out L hL
    obtain ⟨L3, hp2, L4, L5, rfl, ⟨E2, rfl⟩, h4⟩ := hr2.out L2 h2
    have hn := ((hp.map (·.1)).nodup_iff).2 hl.nodup
    rw [List.map_append, List.nodup_append] at hn
    have hm : b ∈ L2.map (·.1) := ((hp2.map (·.1)).mem_iff).1 (by simp)
    exact fun he => hn.2.2 a (by simp) b hm he)).go a0 w ha hw⟩
end
end Go.Sx
