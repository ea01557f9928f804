import Derived.Test.YtniphaoadhojlaaGreatDoorSxB
import Derived.Laws.BitsLemmas
import Derived.Laws.Bits64
set_option linter.all false
namespace Go.Sx
open Go

/-! ## Facts on types, found by instances -/
class Und (P : Program) (T : TypeId) (d : outParam TypeDesc) : Prop where
  out : P.underlying T = some d
class Inf (P : Program) (T : TypeId) (size bytes : outParam Nat) (zero : outParam Value) : Prop where
  out : ∃ i, P.info? T = some i ∧ i.size = size ∧ i.bytes = bytes ∧ i.zero = some zero
/-- A type of one cell. -/
class One (P : Program) (T : TypeId) : Prop where
  out : ∃ d, P.underlying T = some d ∧ (match d with | .struct _ | .array _ _ => false | _ => true) = true
/-- A struct's or an array's type, of so many cells. -/
class Agg (P : Program) (T : TypeId) (size : outParam Nat) : Prop where
  out : ∃ d i, P.underlying T = some d ∧ (match d with | .struct _ | .array _ _ => true | _ => false) = true ∧ P.info? T = some i ∧ i.size = size
/-- Field k of a struct lies at this cell. -/
class Fld (P : Program) (T : TypeId) (k : Nat) (off : outParam Nat) : Prop where
  out : ∃ fs f i, P.underlying T = some (.struct fs) ∧ fs[k]? = some f ∧ f.offset = off ∧ P.info? f.type = some i ∧ i.size ≠ 0

section
variable {G : Base} {P : Program} {t : Tm} {H : Heap} {dst : Option Tmp} {ty : TypeId} {pos : String} {after : Array Edge} {g : Option (Nat × Bool)}

/-! ## Operations on plain values -/
theorem ev_move {x : Operand} {v : Value} (hx : evo t x = some v) : Ev G P ⟨dst, .move x, ty, pos, after, g⟩ t H v :=
  fun ρ hρ w _ => by simp [execOp, hρ x v hx]
theorem ev_assign {x : Operand} {v : Value} (hx : evo t x = some v) : Ev G P ⟨dst, .assign x, ty, pos, after, g⟩ t H v :=
  fun ρ hρ w _ => by simp [execOp, hρ x v hx]
theorem ev_pick {c a b : Operand} {q : Bool} {va vb : Value} (hc : evo t c = some (.bool q)) (ha : evo t a = some va) (hb : evo t b = some vb) :
    Ev G P ⟨dst, .pick c a b, ty, pos, after, g⟩ t H (if q then va else vb) :=
  fun ρ hρ w _ => by simp [execOp, hρ _ _ hc, hρ _ _ ha, hρ _ _ hb, asBool]
/-- '&&': the second part is known where the first holds. -/
theorem ev_and {c a : Operand} {p q : Bool} {u : Value} (hc : evo t c = some (.bool p)) (ha : evo t a = some u) (hu : p = true → u = .bool q) :
    Ev G P ⟨dst, .pick c a (.const (.bool false)), ty, pos, after, g⟩ t H (.bool (p && q)) :=
  fun ρ hρ w _ => by
    simp only [execOp, hρ _ _ hc, hρ _ _ ha, hρ (.const (.bool false)) _ rfl, asBool]
    cases p with
    | true => simp [hu rfl]
    | false => simp
/-- '||'. -/
theorem ev_or {c a : Operand} {p q : Bool} {u : Value} (hc : evo t c = some (.bool p)) (ha : evo t a = some u) (hu : p = false → u = .bool q) :
    Ev G P ⟨dst, .pick c (.const (.bool true)) a, ty, pos, after, g⟩ t H (.bool (p || q)) :=
  fun ρ hρ w _ => by
    simp only [execOp, hρ _ _ hc, hρ _ _ ha, hρ (.const (.bool true)) _ rfl, asBool]
    cases p with
    | true => simp
    | false => simp [hu rfl]
theorem ev_extract {x : Operand} {i : Nat} {vs : Array Value} {v : Value} (hx : evo t x = some (.tuple vs)) (hv : vs[i]? = some v) :
    Ev G P ⟨dst, .extract x i, ty, pos, after, g⟩ t H v :=
  fun ρ hρ w _ => by simp [execOp, hρ _ _ hx, Instr.extract, hv]
theorem ev_nilCheck {x : Operand} {a : Addr} (hx : evo t x = some (.pointer (some a))) : Ev G P ⟨dst, .nilCheck x, ty, pos, after, g⟩ t H (.pointer (some a)) :=
  fun ρ hρ w _ => by simp [execOp, hρ _ _ hx]

theorem wrap_in {z : Int} (h : -9223372036854775808 ≤ z ∧ z ≤ 9223372036854775807) : IntKind.i64.wrap z = z := by
  rw [IntKind.wrap_i64]; omega

theorem ev_add {T U : TypeId} {x y : Operand} {a b : Int} (hx : evo t x = some (.int .i64 a)) (hy : evo t y = some (.int .i64 b)) (h : -9223372036854775808 ≤ a + b ∧ a + b ≤ 9223372036854775807) :
    Ev G P ⟨dst, .binOp .add T x y U, ty, pos, after, g⟩ t H (.int .i64 (a + b)) :=
  fun ρ hρ w _ => by simp [execOp, hρ _ _ hx, hρ _ _ hy, eqGuard, binOp, Op.intArith, wrap_in h]
theorem ev_sub {T U : TypeId} {x y : Operand} {a b : Int} (hx : evo t x = some (.int .i64 a)) (hy : evo t y = some (.int .i64 b)) (h : -9223372036854775808 ≤ a - b ∧ a - b ≤ 9223372036854775807) :
    Ev G P ⟨dst, .binOp .sub T x y U, ty, pos, after, g⟩ t H (.int .i64 (a - b)) :=
  fun ρ hρ w _ => by simp [execOp, hρ _ _ hx, hρ _ _ hy, eqGuard, binOp, Op.intArith, wrap_in h]
theorem ev_mul {T U : TypeId} {x y : Operand} {a b : Int} (hx : evo t x = some (.int .i64 a)) (hy : evo t y = some (.int .i64 b)) (h : -9223372036854775808 ≤ a * b ∧ a * b ≤ 9223372036854775807) :
    Ev G P ⟨dst, .binOp .mul T x y U, ty, pos, after, g⟩ t H (.int .i64 (a * b)) :=
  fun ρ hρ w _ => by simp [execOp, hρ _ _ hx, hρ _ _ hy, eqGuard, binOp, Op.intArith, wrap_in h]
theorem ev_neg {T : TypeId} {x : Operand} {a : Int} (hx : evo t x = some (.int .i64 a)) (h : -9223372036854775808 ≤ -a ∧ -a ≤ 9223372036854775807) :
    Ev G P ⟨dst, .unOp .neg T x, ty, pos, after, g⟩ t H (.int .i64 (-a)) :=
  fun ρ hρ w _ => by simp [execOp, hρ _ _ hx, Op.unary, Op.intArith, wrap_in h]

/-- Comparisons of integers, of whatever kind. -/
theorem ev_lss {T U : TypeId} {x y : Operand} {k : IntKind} {a b : Int} (hx : evo t x = some (.int k a)) (hy : evo t y = some (.int k b)) :
    Ev G P ⟨dst, .binOp .lss T x y U, ty, pos, after, g⟩ t H (.bool (decide (a < b))) :=
  fun ρ hρ w _ => by simp [execOp, hρ _ _ hx, hρ _ _ hy, eqGuard, binOp, Op.intCmp]
theorem ev_leq {T U : TypeId} {x y : Operand} {k : IntKind} {a b : Int} (hx : evo t x = some (.int k a)) (hy : evo t y = some (.int k b)) :
    Ev G P ⟨dst, .binOp .leq T x y U, ty, pos, after, g⟩ t H (.bool (decide (a ≤ b))) :=
  fun ρ hρ w _ => by simp [execOp, hρ _ _ hx, hρ _ _ hy, eqGuard, binOp, Op.intCmp]
theorem ev_gtr {T U : TypeId} {x y : Operand} {k : IntKind} {a b : Int} (hx : evo t x = some (.int k a)) (hy : evo t y = some (.int k b)) :
    Ev G P ⟨dst, .binOp .gtr T x y U, ty, pos, after, g⟩ t H (.bool (decide (b < a))) :=
  fun ρ hρ w _ => by simp [execOp, hρ _ _ hx, hρ _ _ hy, eqGuard, binOp, Op.intCmp]
theorem ev_geq {T U : TypeId} {x y : Operand} {k : IntKind} {a b : Int} (hx : evo t x = some (.int k a)) (hy : evo t y = some (.int k b)) :
    Ev G P ⟨dst, .binOp .geq T x y U, ty, pos, after, g⟩ t H (.bool (decide (b ≤ a))) :=
  fun ρ hρ w _ => by simp [execOp, hρ _ _ hx, hρ _ _ hy, eqGuard, binOp, Op.intCmp]
theorem ev_eql {T U : TypeId} {x y : Operand} {k : IntKind} {a b : Int} (hx : evo t x = some (.int k a)) (hy : evo t y = some (.int k b)) :
    Ev G P ⟨dst, .binOp .eql T x y U, ty, pos, after, g⟩ t H (.bool (decide (a = b))) :=
  fun ρ hρ w _ => by
    have e : (a == b) = decide (a = b) := by rw [Bool.eq_iff_iff]; simp
    simp [execOp, hρ _ _ hx, hρ _ _ hy, eqGuard, binOp, Op.intCmp, e]
theorem ev_neq {T U : TypeId} {x y : Operand} {k : IntKind} {a b : Int} (hx : evo t x = some (.int k a)) (hy : evo t y = some (.int k b)) :
    Ev G P ⟨dst, .binOp .neq T x y U, ty, pos, after, g⟩ t H (.bool (decide (a ≠ b))) :=
  fun ρ hρ w _ => by
    have e : (a != b) = decide (a ≠ b) := by rw [Bool.eq_iff_iff]; simp
    simp only [execOp, hρ _ _ hx, hρ _ _ hy, eqGuard, binOp, Op.intCmp]
    simp [e]
theorem ev_not {T : TypeId} {x : Operand} {b : Bool} (hx : evo t x = some (.bool b)) : Ev G P ⟨dst, .unOp .not T x, ty, pos, after, g⟩ t H (.bool !b) :=
  fun ρ hρ w _ => by simp [execOp, hρ _ _ hx, Op.unary]

/-! ### Unsigned numbers, as Nats -/
theorem wrap_nat {k : IntKind} (hk : k.signed = false) (n : Nat) : k.wrap (n : Int) = ((n % 2 ^ k.bits : Nat) : Int) := by
  cases k <;> simp_all [IntKind.wrap, IntKind.signed, IntKind.bits] <;> omega
theorem ofInt_nat (m n : Nat) : BitVec.ofInt m (n : Int) = BitVec.ofNat m n := by
  simp

theorem ev_addu {T U : TypeId} {x y : Operand} {k : IntKind} {i j : Int} (hx : evo t x = some (.int k i)) (hy : evo t y = some (.int k j)) (hk : k.signed = false) (a b : Nat) (ha : i = a) (hb : j = b) :
    Ev G P ⟨dst, .binOp .add T x y U, ty, pos, after, g⟩ t H (.int k (((a + b) % 2 ^ k.bits : Nat) : Int)) :=
  fun ρ hρ w _ => by
    have e : k.wrap ((a : Int) + (b : Int)) = (((a + b) % 2 ^ k.bits : Nat) : Int) := by rw [← wrap_nat hk]; congr 1
    simp only [execOp, hρ _ _ hx, hρ _ _ hy, eqGuard, binOp, Op.intArith, ha, hb]
    simp [e]
theorem ev_mulu {T U : TypeId} {x y : Operand} {k : IntKind} {i j : Int} (hx : evo t x = some (.int k i)) (hy : evo t y = some (.int k j)) (hk : k.signed = false) (a b : Nat) (ha : i = a) (hb : j = b) :
    Ev G P ⟨dst, .binOp .mul T x y U, ty, pos, after, g⟩ t H (.int k (((a * b) % 2 ^ k.bits : Nat) : Int)) :=
  fun ρ hρ w _ => by
    have e : k.wrap ((a : Int) * (b : Int)) = (((a * b) % 2 ^ k.bits : Nat) : Int) := by rw [← wrap_nat hk, Int.natCast_mul]
    simp only [execOp, hρ _ _ hx, hρ _ _ hy, eqGuard, binOp, Op.intArith, ha, hb]
    simp [e]
theorem ev_subu {T U : TypeId} {x y : Operand} {k : IntKind} {i j : Int} (hx : evo t x = some (.int k i)) (hy : evo t y = some (.int k j)) (hk : k.signed = false) (a b : Nat) (ha : i = a) (hb : j = b) (hle : b ≤ a) (hlt : a < 2 ^ k.bits) :
    Ev G P ⟨dst, .binOp .sub T x y U, ty, pos, after, g⟩ t H (.int k ((a - b : Nat) : Int)) :=
  fun ρ hρ w _ => by
    have e : k.wrap ((a : Int) - (b : Int)) = ((a - b : Nat) : Int) := by
      rw [← Int.ofNat_sub hle, wrap_nat hk, Nat.mod_eq_of_lt (by omega)]
    simp only [execOp, hρ _ _ hx, hρ _ _ hy, eqGuard, binOp, Op.intArith, ha, hb]
    simp only [Sem.run_bind, Sem.run_pure, e, ne_eq, not_true_eq_false, ↓reduceIte]
    rfl

theorem ev_andu {T U : TypeId} {x y : Operand} {k : IntKind} {i j : Int} (hx : evo t x = some (.int k i)) (hy : evo t y = some (.int k j)) (hk : k.signed = false) (a b : Nat) (ha : i = a) (hb : j = b) (hla : a < 2 ^ k.bits) (hlb : b < 2 ^ k.bits) :
    Ev G P ⟨dst, .binOp .and T x y U, ty, pos, after, g⟩ t H (.int k ((a &&& b : Nat) : Int)) :=
  fun ρ hρ w _ => by
    have e : (BitVec.ofInt k.bits (a : Int) &&& BitVec.ofInt k.bits (b : Int)).toNat = a &&& b := by
      rw [ofInt_nat, ofInt_nat, BitVec.toNat_and, BitVec.toNat_ofNat, BitVec.toNat_ofNat, Nat.mod_eq_of_lt hla, Nat.mod_eq_of_lt hlb]
    have e2 : k.wrap ((a &&& b : Nat) : Int) = ((a &&& b : Nat) : Int) := by rw [wrap_nat hk, Nat.mod_eq_of_lt (Nat.and_lt_two_pow _ hlb)]
    simp only [execOp, hρ _ _ hx, hρ _ _ hy, eqGuard, binOp, Op.intBits, ha, hb]
    simp only [Sem.run_bind, Sem.run_pure, e, e2, ne_eq, not_true_eq_false, ↓reduceIte]
    rfl
theorem ev_oru {T U : TypeId} {x y : Operand} {k : IntKind} {i j : Int} (hx : evo t x = some (.int k i)) (hy : evo t y = some (.int k j)) (hk : k.signed = false) (a b : Nat) (ha : i = a) (hb : j = b) (hla : a < 2 ^ k.bits) (hlb : b < 2 ^ k.bits) :
    Ev G P ⟨dst, .binOp .or T x y U, ty, pos, after, g⟩ t H (.int k ((a ||| b : Nat) : Int)) :=
  fun ρ hρ w _ => by
    have e : (BitVec.ofInt k.bits (a : Int) ||| BitVec.ofInt k.bits (b : Int)).toNat = a ||| b := by
      rw [ofInt_nat, ofInt_nat, BitVec.toNat_or, BitVec.toNat_ofNat, BitVec.toNat_ofNat, Nat.mod_eq_of_lt hla, Nat.mod_eq_of_lt hlb]
    have e2 : k.wrap ((a ||| b : Nat) : Int) = ((a ||| b : Nat) : Int) := by rw [wrap_nat hk, Nat.mod_eq_of_lt (Nat.or_lt_two_pow hla hlb)]
    simp only [execOp, hρ _ _ hx, hρ _ _ hy, eqGuard, binOp, Op.intBits, ha, hb]
    simp only [Sem.run_bind, Sem.run_pure, e, e2, ne_eq, not_true_eq_false, ↓reduceIte]
    rfl
theorem ev_xoru {T U : TypeId} {x y : Operand} {k : IntKind} {i j : Int} (hx : evo t x = some (.int k i)) (hy : evo t y = some (.int k j)) (hk : k.signed = false) (a b : Nat) (ha : i = a) (hb : j = b) (hla : a < 2 ^ k.bits) (hlb : b < 2 ^ k.bits) :
    Ev G P ⟨dst, .binOp .xor T x y U, ty, pos, after, g⟩ t H (.int k ((a ^^^ b : Nat) : Int)) :=
  fun ρ hρ w _ => by
    have e : (BitVec.ofInt k.bits (a : Int) ^^^ BitVec.ofInt k.bits (b : Int)).toNat = a ^^^ b := by
      rw [ofInt_nat, ofInt_nat, BitVec.toNat_xor, BitVec.toNat_ofNat, BitVec.toNat_ofNat, Nat.mod_eq_of_lt hla, Nat.mod_eq_of_lt hlb]
    have e2 : k.wrap ((a ^^^ b : Nat) : Int) = ((a ^^^ b : Nat) : Int) := by rw [wrap_nat hk, Nat.mod_eq_of_lt (Nat.xor_lt_two_pow hla hlb)]
    simp only [execOp, hρ _ _ hx, hρ _ _ hy, eqGuard, binOp, Op.intBits, ha, hb]
    simp only [Sem.run_bind, Sem.run_pure, e, e2, ne_eq, not_true_eq_false, ↓reduceIte]
    rfl
theorem ev_notu {T : TypeId} {x : Operand} {k : IntKind} {i : Int} (hx : evo t x = some (.int k i)) (hk : k.signed = false) (a : Nat) (ha : i = a) (hla : a < 2 ^ k.bits) :
    Ev G P ⟨dst, .unOp .xor T x, ty, pos, after, g⟩ t H (.int k (((2 ^ k.bits - 1) ^^^ a : Nat) : Int)) :=
  fun ρ hρ w _ => by
    have hm : (k.max : Int) = ((2 ^ k.bits - 1 : Nat) : Int) := by cases k <;> simp_all [IntKind.max, IntKind.signed, IntKind.bits]
    have hlb : 2 ^ k.bits - 1 < 2 ^ k.bits := by have := Nat.two_pow_pos k.bits; omega
    have e : (BitVec.ofInt k.bits ((2 ^ k.bits - 1 : Nat) : Int) ^^^ BitVec.ofInt k.bits (a : Int)).toNat = (2 ^ k.bits - 1) ^^^ a := by
      rw [ofInt_nat, ofInt_nat, BitVec.toNat_xor, BitVec.toNat_ofNat, BitVec.toNat_ofNat, Nat.mod_eq_of_lt hla, Nat.mod_eq_of_lt hlb]
    have e2 : k.wrap (((2 ^ k.bits - 1) ^^^ a : Nat) : Int) = (((2 ^ k.bits - 1) ^^^ a : Nat) : Int) := by rw [wrap_nat hk, Nat.mod_eq_of_lt (Nat.xor_lt_two_pow hlb hla)]
    simp only [execOp, hρ _ _ hx, Op.unary, Op.intBits, ha, hk, hm]
    simp only [Sem.run_bind, Sem.run_pure, e, e2, Bool.false_eq_true, ↓reduceIte]
    rfl
theorem ev_shru {T U : TypeId} {x y : Operand} {k k' : IntKind} {i j : Int} (hx : evo t x = some (.int k i)) (hy : evo t y = some (.int k' j)) (a b : Nat) (ha : i = a) (hb : j = b) (hla : b ≤ k.bits) :
    Ev G P ⟨dst, .binOp .shr T x y U, ty, pos, after, g⟩ t H (.int k ((a / 2 ^ b : Nat) : Int)) :=
  fun ρ hρ w _ => by
    have e : ((a : Int).fdiv (2 ^ b)) = ((a / 2 ^ b : Nat) : Int) := by
      rw [Int.fdiv_eq_ediv_of_nonneg _ (by exact Int.pow_nonneg (by decide))]
      simp
    simp only [execOp, hρ _ _ hx, hρ _ _ hy, eqGuard, binOp, Op.shift, ha, hb]
    have hb0 : ¬ ((b : Int) < 0) := by omega
    simp [Nat.min_eq_left hla, e, hb0]
theorem ev_shlu {T U : TypeId} {x y : Operand} {k k' : IntKind} {i j : Int} (hx : evo t x = some (.int k i)) (hy : evo t y = some (.int k' j)) (hk : k.signed = false) (a b : Nat) (ha : i = a) (hb : j = b) :
    Ev G P ⟨dst, .binOp .shl T x y U, ty, pos, after, g⟩ t H (.int k ((a * 2 ^ b % 2 ^ k.bits : Nat) : Int)) :=
  fun ρ hρ w _ => by
    have e : k.wrap ((a : Int) * 2 ^ min b k.bits) = ((a * 2 ^ b % 2 ^ k.bits : Nat) : Int) := by
      rw [show ((a : Int) * 2 ^ min b k.bits) = ((a * 2 ^ min b k.bits : Nat) : Int) by simp, wrap_nat hk]
      congr 1
      rcases Nat.le_total b k.bits with h | h
      · rw [Nat.min_eq_left h]
      · rw [Nat.min_eq_right h]
        obtain ⟨c, rfl⟩ := Nat.le.dest h
        rw [Nat.pow_add]
        rw [show a * (2 ^ k.bits * 2 ^ c) = a * 2 ^ c * 2 ^ k.bits by rw [Nat.mul_comm (2 ^ k.bits), Nat.mul_assoc]]
        simp
    simp only [execOp, hρ _ _ hx, hρ _ _ hy, eqGuard, binOp, Op.shift, ha, hb]
    have hb0 : ¬ ((b : Int) < 0) := by omega
    simp [e, hb0]
/-- A conversion between integer types of a number that is not below 0. -/
theorem ev_convu {S D : TypeId} {ds : TypeDesc} {x : Operand} {k k' : IntKind} {i : Int} [hs : Und P S ds] [hd : Und P D (.int k')] (hx : evo t x = some (.int k i)) (hk : k'.signed = false) (a : Nat) (ha : i = a) :
    Ev G P ⟨dst, .convert S D x, ty, pos, after, g⟩ t H (.int k' ((a % 2 ^ k'.bits : Nat) : Int)) :=
  fun ρ hρ w _ => by
    have e : (underlying S).run P w = .ok ds w := by simp [underlying, hs.out]
    have e2 : (underlying D).run P w = .ok (.int k') w := by simp [underlying, hd.out]
    simp only [execOp, convert, hρ _ _ hx, ha, Sem.run_bind, e, e2, Result.andThen_ok]
    cases ds <;> simp [Conv.intToInt, wrap_nat hk]
theorem ev_conv64 {S D : TypeId} {ds : TypeDesc} {x : Operand} {k : IntKind} {i : Int} [hs : Und P S ds] [hd : Und P D (.int .i64)] (hx : evo t x = some (.int k i)) (h : -9223372036854775808 ≤ i ∧ i ≤ 9223372036854775807) :
    Ev G P ⟨dst, .convert S D x, ty, pos, after, g⟩ t H (.int .i64 i) :=
  fun ρ hρ w _ => by
    have e : (underlying S).run P w = .ok ds w := by simp [underlying, hs.out]
    have e2 : (underlying D).run P w = .ok (.int .i64) w := by simp [underlying, hd.out]
    simp only [execOp, convert, hρ _ _ hx, Sem.run_bind, e, e2, Result.andThen_ok]
    cases ds <;> simp [Conv.intToInt, wrap_in h]
/-- '/' and '%' by a number above 0, of a number that is not below 0. -/
theorem ev_quo {T U : TypeId} {x y : Operand} {k : IntKind} {i j : Int} (hx : evo t x = some (.int k i)) (hy : evo t y = some (.int k j)) (a b : Nat) (ha : i = a) (hb : j = b) (hp : 0 < b) (hla : (a : Int) ≤ k.max) :
    Ev G P ⟨dst, .binOp .quo T x y U, ty, pos, after, g⟩ t H (.int k ((a / b : Nat) : Int)) :=
  fun ρ hρ w _ => by
    have h0 : ¬ ((b : Int) = 0) := by omega
    have hd : a / b ≤ a := Nat.div_le_self a b
    have e : k.wrap ((a : Int).tdiv (b : Int)) = ((a / b : Nat) : Int) := by
      rw [Int.tdiv_eq_ediv_of_nonneg (by omega), ← Int.natCast_ediv]
      generalize a / b = c at *
      cases k <;> simp [IntKind.max, IntKind.signed, IntKind.bits, IntKind.wrap] at hla ⊢ <;> omega
    simp only [execOp, hρ _ _ hx, hρ _ _ hy, eqGuard, binOp, Op.intDiv, ha, hb]
    simp only [Sem.run_bind, Sem.run_pure, ne_eq, not_true_eq_false, ↓reduceIte, h0, e]
    rfl
theorem ev_rem {T U : TypeId} {x y : Operand} {k : IntKind} {i j : Int} (hx : evo t x = some (.int k i)) (hy : evo t y = some (.int k j)) (a b : Nat) (ha : i = a) (hb : j = b) (hp : 0 < b) :
    Ev G P ⟨dst, .binOp .rem T x y U, ty, pos, after, g⟩ t H (.int k ((a % b : Nat) : Int)) :=
  fun ρ hρ w _ => by
    have h0 : ¬ ((b : Int) = 0) := by omega
    have e : (a : Int).tmod (b : Int) = ((a % b : Nat) : Int) := by
      rw [Int.tmod_eq_emod_of_nonneg (by omega)]; simp
    simp only [execOp, hρ _ _ hx, hρ _ _ hy, eqGuard, binOp, Op.intDiv, ha, hb]
    simp only [Sem.run_bind, Sem.run_pure, ne_eq, not_true_eq_false, ↓reduceIte, h0, e]
    rfl
/-- min of two integers. -/
theorem ev_min {x y : Operand} {ats : Array TypeId} {k : IntKind} {a b : Int} (hx : evo t x = some (.int k a)) (hy : evo t y = some (.int k b)) :
    Ev G P ⟨dst, .call ⟨.builtin .min, #[x, y], ats⟩, ty, pos, after, g⟩ t H (.int k (min a b)) :=
  fun ρ hρ w _ => by
    have e : (if b < a then b else a) = min a b := by rw [Int.min_def]; split <;> split <;> omega
    simp [execOp, resolve, invoke, builtin, Builtin.min_, Builtin.min2, hρ _ _ hx, hρ _ _ hy, e]
theorem ev_max {x y : Operand} {ats : Array TypeId} {k : IntKind} {a b : Int} (hx : evo t x = some (.int k a)) (hy : evo t y = some (.int k b)) :
    Ev G P ⟨dst, .call ⟨.builtin .max, #[x, y], ats⟩, ty, pos, after, g⟩ t H (.int k (max a b)) :=
  fun ρ hρ w _ => by
    have e : (if b > a then b else a) = max a b := by rw [Int.max_def]; split <;> split <;> omega
    simp [execOp, resolve, invoke, builtin, Builtin.max_, Builtin.max2, hρ _ _ hx, hρ _ _ hy, e]
end
end Go.Sx
