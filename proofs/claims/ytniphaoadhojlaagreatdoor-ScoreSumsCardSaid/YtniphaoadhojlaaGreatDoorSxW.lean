import Derived.Test.YtniphaoadhojlaaGreatDoorSxV
set_option linter.all false
namespace Go.Sx
open Go

/-! ## append(b, make([]byte, n)...) -/
def zerosB (n : Nat) : ByteArray := ⟨Array.replicate n 0⟩
theorem zeros_size (n : Nat) : (zerosB n).size = n := by simp [zerosB, ByteArray.size]
theorem zeros_bytes (n : Nat) : byts (zerosB n) = List.replicate n 0 := by simp [byts, zerosB]
theorem zeros_cells (n : Nat) : Builtin.zeroCells #[.int .u8 0] n = ((zerosB n).extract 0 n).data.map fun b => Value.int .u8 b.toNat := by
  have e : (zerosB n).extract 0 n = zerosB n := by
    have := ByteArray.extract_zero_size (b := zerosB n)
    rwa [zeros_size] at this
  rw [e]
  apply Array.ext
  · simp [Builtin.zeroCells, zerosB]
  · intro i h1 h2
    simp [Builtin.zeroCells, zerosB, Nat.mod_one]
variable {P : Program}
theorem run_append_make {w : World} {T T2 T3 E : TypeId} {ty : TypeId} {s : SV} {n bb : Nat} [hT : Und P T (.slice E)] [hT2 : Und P T2 (.int .i64)] [hT3 : Und P T3 .string] [hE : Inf P E 1 bb (.int .u8 0)] (hn : n * bb ≤ 140737488355328) (hn2 : n ≤ 140737488355328) (hl : s.n + n ≤ 140737488355328) (hl2 : (s.n + n) * bb ≤ 140737488355328) :
    (Builtin.append_ #[T, T2] ty #[s.val, .int .i64 (n : Int)]).run P w = (Builtin.append_ #[T, T3] ty #[s.val, .string (zerosB n)]).run P w := by
  obtain ⟨i, hi1, hi2, hi3, hi4⟩ := hE.out
  have hinf : ∀ w : World, (typeInfo E).run P w = .ok i w := by intro w; simp [typeInfo, hi1]
  have hw : IntKind.wrap .i64 (n : Int) = n := wrap_in (by omega)
  have h0 : ¬ ((n : Int) < 0) := by omega
  have h1 : ¬ ((n : Int) * (i.bytes : Int) > 2 ^ 48) := by
    rw [hi3]
    have : (n : Int) * (bb : Int) = ((n * bb : Nat) : Int) := by simp
    rw [this]; omega
  have hmx : ¬ (((s.n + n : Nat) : Int) > IntKind.i64.max) := by
    simp only [IntKind.max, IntKind.signed, IntKind.bits]; simp; omega
  simp only [Builtin.append_, SV.val]
  simp only [Sem.run_bind, Sem.run_pure, Result.andThen_ok, run_und (T := T), run_und (T := T2), run_und (T := T3), run_sizeOf (T := E) (s := 1), List.getElem?_toArray, List.getElem?_cons_zero, List.getElem?_cons_succ, Bool.false_eq_true, ↓reduceIte, asInt, asIntOf, hw, h0, hinf, h1, Builtin.lenOf, zeros_size, Int.toNat_natCast]
  have happ : ∀ w : World, (if n * 1 = 0 then (pure #[] : Sem (Array Value)) else do
      let z ← zeroValue E
      pure (Builtin.zeroCells z.cells n)).run P w = .ok (((zerosB n).extract 0 n).data.map fun b => Value.int .u8 b.toNat) w := by
    intro w
    rw [← zeros_cells]
    by_cases hz : n * 1 = 0
    · obtain rfl : n = 0 := by omega
      rw [if_pos hz, Sem.run_pure]
      simp [Builtin.zeroCells]
    · rw [if_neg hz]
      simp only [Sem.run_bind, run_zero (T := E), Result.andThen_ok, Sem.run_pure]
      rfl
  have hstr : ∀ w : World, (Builtin.firstCells 1 n (.string (zerosB n))).run P w = .ok (((zerosB n).extract 0 n).data.map fun b => Value.int .u8 b.toNat) w := fun w => rfl
  by_cases hroom : s.n + n ≤ s.c
  · simp only [hroom, ↓reduceIte, Bool.not_true, Bool.not_false, Bool.false_eq_true, Sem.run_bind, happ, hstr]
  · have hgr : ¬ (Builtin.nextslicecap (s.n + n) s.c * i.bytes > 2 ^ 48) := by
      have := growslice_fits (bytes := bb) (need := s.n + n) (old := s.c) (by omega) hl2
      rw [hi3]; omega
    simp only [hroom, hmx, hgr, ↓reduceIte, Bool.not_true, Bool.not_false, Bool.false_eq_true, Sem.run_bind, happ, hstr, hinf, Result.andThen_ok, false_and]
variable {G : Base} {t : Tm} {H : Heap} {dst : Option Tmp} {ty : TypeId} {pos : String} {after : Array Edge} {g : Option (Nat × Bool)}
theorem st_append_make {T T2 T3 E : TypeId} {x y : Operand} {s : SV} {j : Int} {n bb : Nat} {xs : List Nat} {C : Hp → Heap} (hx : evo t x = some s.val) (hy : evo t y = some (.int .i64 j)) (hj : j = (n : Int)) (hlim : (xs.length + n) * bb ≤ 140737488355328) (hlim2 : xs.length + n ≤ 140737488355328) [hT : Und P T (.slice E)] [hT2 : Und P T2 (.int .i64)] (hT3 : Und P T3 .string) [hE : Inf P E 1 bb (.int .u8 0)] [hf : FocR H s eB xs C] [hs : Sl H s eB xs] :
    St G P ⟨dst, .call ⟨.builtin .append, #[x, y], #[T, T2]⟩, ty, pos, after, g⟩ t H (fun u H' => ∃ s' : SV, u = s'.val ∧ H' = C (Row s' eB (xs ++ List.replicate n 0))) :=
  fun ρ hρ w hw => by
    subst hj
    obtain ⟨q1, _, _⟩ := hs.get hw
    have hl2 : (s.n + n) * bb ≤ 140737488355328 := by rw [q1]; exact hlim
    have hn1 : n * bb ≤ 140737488355328 := Nat.le_trans (Nat.mul_le_mul_right _ (by omega)) hl2
    obtain ⟨s', w', hr, hw'⟩ := run_append (ty := ty) (T := T) (T2 := T3) (d2 := .string) (P := P) (E := E) (ys := byts (zerosB n)) (.inl rfl) rfl rfl (hf := hf) hw (gives_string (zerosB n)) rfl rfl (by rw [byts_length, zeros_size]; exact hlim) (by rw [byts_length, zeros_size]; exact hlim2)
    rw [← run_append_make (T2 := T2) hn1 (by omega) (by omega) hl2] at hr
    have : (execOp ρ ⟨dst, .call ⟨.builtin .append, #[x, y], #[T, T2]⟩, ty, pos, after, g⟩).run P w = .ok (.value s'.val) w' := by
      simp only [execOp, resolve, invoke, builtin, List.map_toArray, List.map_cons, List.map_nil, hρ _ _ hx, hρ _ _ hy, Sem.run_bind, Sem.run_pure, Result.andThen_ok, hr]
    rw [this]
    rw [zeros_bytes] at hw'
    exact ⟨_, hw', s', rfl, rfl⟩
theorem ev_or64 {T U : TypeId} {x y : Operand} {i j : Int} (hx : evo t x = some (.int .i64 i)) (hy : evo t y = some (.int .i64 j)) (a b : Nat) (ha : i = a) (hb : j = b) (hla : a < 9223372036854775808) (hlb : b < 9223372036854775808) :
    Ev G P ⟨dst, .binOp .or T x y U, ty, pos, after, g⟩ t H (.int .i64 ((a ||| b : Nat) : Int)) :=
  fun ρ hρ w _ => by
    have hlt : a ||| b < 2 ^ 63 := Nat.or_lt_two_pow (n := 63) hla hlb
    have e : (BitVec.ofInt 64 (a : Int) ||| BitVec.ofInt 64 (b : Int)).toNat = a ||| b := by
      rw [ofInt_nat, ofInt_nat, BitVec.toNat_or, BitVec.toNat_ofNat, BitVec.toNat_ofNat, Nat.mod_eq_of_lt (by omega), Nat.mod_eq_of_lt (by omega)]
    have e2 : IntKind.wrap .i64 ((a ||| b : Nat) : Int) = ((a ||| b : Nat) : Int) := wrap_in (by omega)
    have e4 : IntKind.wrap .i64 (((BitVec.ofInt (IntKind.bits .i64) (a : Int) ||| BitVec.ofInt (IntKind.bits .i64) (b : Int)).toNat : Nat) : Int) = ((a ||| b : Nat) : Int) := by rw [← e2]; exact congrArg (fun n : Nat => IntKind.wrap .i64 (n : Int)) e
    simp only [execOp, hρ _ _ hx, hρ _ _ hy, eqGuard, binOp, Op.intBits, ha, hb]
    simp only [Sem.run_bind, Sem.run_pure, ne_eq, not_true_eq_false, ↓reduceIte]
    rw [e4]
    rfl
end Go.Sx
