import Derived.Test.YtniphaoadhojlaaGreatDoorFx
import Derived.Test.YtniphaoadhojlaaGreatDoorSxP
import Derived.Lib.Mul64
set_option linter.all false
namespace Go.Sx
open Go Go.Proofs Tryz
set_option maxRecDepth 100000

/-! ## math/bits: sums, differences and products with what goes over -/
def add64E : Array Value → Sem Value := fun args => do
  let (x, y, c) ← Extern.MathBitsCarry.three "Add64" args
  pure (Extern.MathBitsCarry.pair ((x + y + c) % Extern.MathBitsCarry.m64) ((x + y + c) / Extern.MathBitsCarry.m64))
def sub64E : Array Value → Sem Value := fun args => do
  let (x, y, b) ← Extern.MathBitsCarry.three "Sub64" args
  pure (Extern.MathBitsCarry.pair ((x + Extern.MathBitsCarry.m64 - y - b) % Extern.MathBitsCarry.m64) (if x < y + b then 1 else 0))
theorem run_three {P : Program} (n : String) (x y c : Nat) (hc : c ≤ 1) (w : World) : (Extern.MathBitsCarry.three n #[.int .u64 (x : Int), .int .u64 (y : Int), .int .u64 (c : Int)]).run P w = .ok (x, y, c) w := by
  have h1 : ¬ (1 < c) := by omega
  show (bind (asInt (.int .u64 (c : Int))) _ : Sem (Nat × Nat × Nat)).run P w = _
  simp [asInt, asIntOf]
  rw [if_neg (by omega)]; rfl
theorem run_add64 {P : Program} (x y c : Nat) (hc : c ≤ 1) (w : World) : (add64E #[.int .u64 (x : Int), .int .u64 (y : Int), .int .u64 (c : Int)]).run P w = .ok (.tuple #[.int .u64 (((x + y + c) % B64 : Nat) : Int), .int .u64 (((x + y + c) / B64 : Nat) : Int)]) w := by
  simp only [add64E, Sem.run_bind, run_three "Add64" x y c hc w, Result.andThen_ok, Sem.run_pure]
  rfl
theorem run_sub64 {P : Program} (x y c : Nat) (hc : c ≤ 1) (w : World) : (sub64E #[.int .u64 (x : Int), .int .u64 (y : Int), .int .u64 (c : Int)]).run P w = .ok (.tuple #[.int .u64 (((x + B64 - y - c) % B64 : Nat) : Int), .int .u64 (((if x < y + c then 1 else 0) : Nat) : Int)]) w := by
  simp only [sub64E, Sem.run_bind, run_three "Sub64" x y c hc w, Result.andThen_ok, Sem.run_pure]
  rfl
theorem tAdd {G : Base} {H : Heap} {x y c : Nat} (hc : c ≤ 1) : SC G Tryz.prog 62 [.int .u64 (x : Int), .int .u64 (y : Int), .int .u64 (c : Int)] H (fun v H' => v = .tuple #[.int .u64 (((x + y + c) % B64 : Nat) : Int), .int .u64 (((x + y + c) / B64 : Nat) : Int)] ∧ H' = H) := by
  refine SC.out (sc_walk Tryz.func62 rfl Tryz.ntmps62 (by kernel_rfl) (Nat.le_of_ble_eq_true rfl) ?_)
  refine ws_ (wr_ (e_ asn (k:=e_ asn (k:=on_ (qn_ (ws_ (iff_ (k:=wk_ (qn_ (ws_ (wr_ (e_ mv (k:=e_ mv (k:=?_))))))))))))))
  refine e_ mv (k:=?_)
  refine s_ (st_ext (vs := [_, _, _]) Tryz.func13 (by kernel_rfl) rfl (by kernel_rfl) (by kernel_rfl) rfl (fun w => run_add64 x y c hc w)) (k:=?_)
  rintro _ _ ⟨rfl, rfl⟩
  refine e_ mv (k:=e_ exr (k:=e_ exr (k:=e_ asn (k:=e_ asn (k:=on_ (qn_ (ws_ (wr_ (e_ mv (k:=e_ mv (k:=e_ asn (k:=e_ asn (k:=on_ (?_))))))))))))))
  refine qn_ (wt_ (rt_ Tryz.results62 (k:=?_)))
  exact ⟨_, hsb, rfl, rfl⟩
theorem tSub {G : Base} {H : Heap} {x y c : Nat} (hc : c ≤ 1) : SC G Tryz.prog 65 [.int .u64 (x : Int), .int .u64 (y : Int), .int .u64 (c : Int)] H (fun v H' => v = .tuple #[.int .u64 (((x + B64 - y - c) % B64 : Nat) : Int), .int .u64 (((if x < y + c then 1 else 0) : Nat) : Int)] ∧ H' = H) := by
  refine SC.out (sc_walk Tryz.func65 rfl Tryz.ntmps65 (by kernel_rfl) (Nat.le_of_ble_eq_true rfl) ?_)
  refine ws_ (wr_ (e_ asn (k:=e_ asn (k:=on_ (qn_ (ws_ (iff_ (k:=wk_ (qn_ (ws_ (wr_ (e_ mv (k:=e_ mv (k:=?_))))))))))))))
  refine e_ mv (k:=?_)
  refine s_ (st_ext (vs := [_, _, _]) Tryz.func94 (by kernel_rfl) rfl (by kernel_rfl) (by kernel_rfl) rfl (fun w => run_sub64 x y c hc w)) (k:=?_)
  rintro _ _ ⟨rfl, rfl⟩
  refine e_ mv (k:=e_ exr (k:=e_ exr (k:=e_ asn (k:=e_ asn (k:=on_ (qn_ (ws_ (wr_ (e_ mv (k:=e_ mv (k:=e_ asn (k:=e_ asn (k:=on_ (?_))))))))))))))
  refine qn_ (wt_ (rt_ Tryz.results65 (k:=?_)))
  exact ⟨_, hsb, rfl, rfl⟩
theorem and32 (a : Nat) : a &&& 4294967295 = a % 4294967296 := Nat.and_two_pow_sub_one_eq_mod a 32
theorem tMul64 {G : Base} {H : Heap} {x y : Nat} (hx : x < 18446744073709551616) (hy : y < 18446744073709551616) : SC G Tryz.prog 14 [.int .u64 (x : Int), .int .u64 (y : Int)] H (fun v H' => v = .tuple #[.int .u64 ((x * y / B64 : Nat) : Int), .int .u64 ((x * y % B64 : Nat) : Int)] ∧ H' = H) := by
  obtain ⟨bd, bt, bw, hhi⟩ := Lib.mul64_hi x y hx hy
  have ba := Lib.half_mul_le (a := x / 4294967296) (b := y / 4294967296) (by omega) (by omega)
  have bb := Lib.half_mul_le (a := x / 4294967296) (b := y % 4294967296) (by omega) (by omega)
  have bc := Lib.half_mul_le (a := x % 4294967296) (b := y / 4294967296) (by omega) (by omega)
  refine SC.out (sc_walk Tryz.func14 rfl Tryz.ntmps14 (by kernel_rfl) (Nat.le_of_ble_eq_true rfl) ?_)
  refine ws_ (wr_ (e_ asn (k:=e_ asn (k:=on_ (qn_ (ws_ (wr_ (e_ mv (k:=?_)))))))))
  refine e_ (evq (ev_andM 18446744073709551616 rfl rfl rfl rfl x 4294967295 rfl rfl hx (by decide)) (congrArg (fun n : Nat => Value.int .u64 (n : Int)) (and32 x))) (k:=?_)
  refine e_ asn (k:=on_ (qn_ (ws_ (wr_ (e_ mv (k:=?_))))))
  refine e_ (ev_shru rfl rfl _ 32 rfl rfl (by first | decide | (show _ ≤ 64; omega))) (k:=?_)
  refine e_ asn (k:=on_ (qn_ (ws_ (wr_ (e_ mv (k:=?_))))))
  refine e_ (evq (ev_andM 18446744073709551616 rfl rfl rfl rfl y 4294967295 rfl rfl hy (by decide)) (congrArg (fun n : Nat => Value.int .u64 (n : Int)) (and32 y))) (k:=?_)
  refine e_ asn (k:=on_ (qn_ (ws_ (wr_ (e_ mv (k:=?_))))))
  refine e_ (ev_shru rfl rfl _ 32 rfl rfl (by first | decide | (show _ ≤ 64; omega))) (k:=?_)
  refine e_ asn (k:=on_ (qn_ (ws_ (wr_ (e_ mv (k:=e_ mv (k:=?_)))))))
  refine e_ (evq (ev_mulM 18446744073709551616 rfl rfl rfl rfl _ _ rfl rfl) (congrArg (fun n : Nat => Value.int .u64 (n : Int)) (Nat.mod_eq_of_lt bd))) (k:=?_)
  refine e_ asn (k:=on_ (qn_ (ws_ (wr_ (e_ mv (k:=e_ mv (k:=?_)))))))
  refine e_ (evq (ev_mulM 18446744073709551616 rfl rfl rfl rfl _ _ rfl rfl) (congrArg (fun n : Nat => Value.int .u64 (n : Int)) (Nat.mod_eq_of_lt (Nat.lt_of_le_of_lt bb (by decide))))) (k:=?_)
  refine e_ mv (k:=?_)
  refine e_ (ev_shru rfl rfl _ 32 rfl rfl (by first | decide | (show _ ≤ 64; omega))) (k:=?_)
  refine e_ (ev_addL 18446744073709551616 rfl rfl rfl rfl _ _ rfl rfl bt) (k:=?_)
  refine e_ asn (k:=on_ (qn_ (ws_ (wr_ (e_ mv (k:=?_))))))
  refine e_ (evq (ev_andM 18446744073709551616 rfl rfl rfl rfl _ 4294967295 rfl rfl bt (by decide)) (congrArg (fun n : Nat => Value.int .u64 (n : Int)) (and32 _))) (k:=?_)
  refine e_ asn (k:=on_ (qn_ (ws_ (wr_ (e_ mv (k:=?_))))))
  refine e_ (ev_shru rfl rfl _ 32 rfl rfl (by first | decide | (show _ ≤ 64; omega))) (k:=?_)
  refine e_ asn (k:=on_ (qn_ (ws_ (wr_ (e_ mv (k:=e_ mv (k:=e_ mv (k:=?_))))))))
  refine e_ (evq (ev_mulM 18446744073709551616 rfl rfl rfl rfl _ _ rfl rfl) (congrArg (fun n : Nat => Value.int .u64 (n : Int)) (Nat.mod_eq_of_lt (Nat.lt_of_le_of_lt bc (by decide))))) (k:=?_)
  refine e_ (ev_addL 18446744073709551616 rfl rfl rfl rfl _ _ rfl rfl bw) (k:=?_)
  refine e_ asn (k:=on_ (qn_ (ws_ (wr_ (e_ mv (k:=e_ mv (k:=?_)))))))
  refine e_ (evq (ev_mulM 18446744073709551616 rfl rfl rfl rfl _ _ rfl rfl) (congrArg (fun n : Nat => Value.int .u64 (n : Int)) (Nat.mod_eq_of_lt (Nat.lt_of_le_of_lt ba (by decide))))) (k:=?_)
  refine e_ mv (k:=?_)
  refine e_ (ev_addL 18446744073709551616 rfl rfl rfl rfl _ _ rfl rfl (by omega)) (k:=?_)
  refine e_ mv (k:=?_)
  refine e_ (ev_shru rfl rfl _ 32 rfl rfl (by first | decide | (show _ ≤ 64; omega))) (k:=?_)
  refine e_ (evq (ev_addL 18446744073709551616 rfl rfl rfl rfl _ _ rfl rfl (by omega)) (congrArg (fun n : Nat => Value.int .u64 (n : Int)) hhi)) (k:=?_)
  refine e_ asn (k:=on_ (qn_ (ws_ (wr_ (e_ mv (k:=e_ mv (k:=?_)))))))
  refine e_ (ev_mulM 18446744073709551616 rfl rfl rfl rfl _ _ rfl rfl) (k:=?_)
  refine e_ asn (k:=on_ (qn_ (wt_ (rt_ Tryz.results14 (k:=?_)))))
  exact ⟨_, hsb, rfl, rfl⟩
theorem tMul {G : Base} {H : Heap} {x y : Nat} (hx : x < 18446744073709551616) (hy : y < 18446744073709551616) : SC G Tryz.prog 129 [.int .u64 (x : Int), .int .u64 (y : Int)] H (fun v H' => v = .tuple #[.int .u64 ((x * y / B64 : Nat) : Int), .int .u64 ((x * y % B64 : Nat) : Int)] ∧ H' = H) := by
  refine SC.out (sc_walk Tryz.func129 rfl Tryz.ntmps129 (by kernel_rfl) (Nat.le_of_ble_eq_true rfl) ?_)
  refine ws_ (wr_ (e_ asn (k:=e_ asn (k:=on_ (qn_ (ws_ (iff_ (k:=wk_ (qn_ (ws_ (wr_ (e_ mv (k:=e_ mv (k:=?_))))))))))))))
  refine cp_ (vs:=[_,_]) rfl (tMul64 hx hy) (k:=e_ mv (k:=e_ exr (k:=e_ exr (k:=e_ asn (k:=e_ asn (k:=on_ (qn_ (ws_ (wr_ (e_ mv (k:=e_ mv (k:=e_ asn (k:=e_ asn (k:=?_))))))))))))))
  refine on_ (qn_ (wt_ (rt_ Tryz.results129 (k:=?_))))
  exact ⟨_, hsb, rfl, rfl⟩
theorem tMulWW {G : Base} {H : Heap} {x y : Nat} (hx : x < 18446744073709551616) (hy : y < 18446744073709551616) : SC G Tryz.prog 95 [.int .u64 (x : Int), .int .u64 (y : Int)] H (fun v H' => v = .tuple #[.int .u64 ((x * y / B64 : Nat) : Int), .int .u64 ((x * y % B64 : Nat) : Int)] ∧ H' = H) := by
  refine SC.out (sc_walk Tryz.func95 rfl Tryz.ntmps95 (by kernel_rfl) (Nat.le_of_ble_eq_true rfl) ?_)
  refine ws_ (wr_ (e_ asn (k:=e_ asn (k:=on_ (qn_ (ws_ (wr_ (e_ mv (k:=e_ mv (k:=?_))))))))))
  refine cp_ (vs:=[_,_]) rfl (tMul hx hy) (k:=e_ mv (k:=e_ exr (k:=e_ exr (k:=e_ asn (k:=e_ asn (k:=on_ (qn_ (ws_ (wr_ (e_ mv (k:=e_ mv (k:=e_ asn (k:=e_ asn (k:=?_))))))))))))))
  refine on_ (qn_ (wt_ (rt_ Tryz.results95 (k:=?_))))
  exact ⟨_, hsb, rfl, rfl⟩
theorem mul_le {x y : Nat} (hx : x < 18446744073709551616) (hy : y < 18446744073709551616) : x * y ≤ 340282366920938463426481119284349108225 := Nat.mul_le_mul (Nat.le_of_lt_succ hx : x ≤ 18446744073709551615) (Nat.le_of_lt_succ hy : y ≤ 18446744073709551615)
theorem tMulAddWWW {G : Base} {H : Heap} {x y c : Nat} (hx : x < 18446744073709551616) (hy : y < 18446744073709551616) (hc : c < 18446744073709551616) : SC G Tryz.prog 131 [.int .u64 (x : Int), .int .u64 (y : Int), .int .u64 (c : Int)] H (fun v H' => v = .tuple #[.int .u64 (((x * y + c) / B64 : Nat) : Int), .int .u64 (((x * y + c) % B64 : Nat) : Int)] ∧ H' = H) := by
  have hm := mul_le hx hy
  refine SC.out (sc_walk Tryz.func131 rfl Tryz.ntmps131 (by kernel_rfl) (Nat.le_of_ble_eq_true rfl) ?_)
  refine ws_ (wr_ (e_ asn (k:=e_ asn (k:=on_ (qn_ (ws_ (wr_ (e_ mv (k:=e_ mv (k:=?_))))))))))
  refine cp_ (vs:=[_,_]) rfl (tMul hx hy) (k:=e_ mv (k:=e_ exr (k:=e_ exr (k:=e_ asn (k:=e_ asn (k:=on_ (qn_ (ws_ (wr_ (e_ asn (k:=on_ (qn_ (ws_ (?_))))))))))))))
  refine wr_ (e_ mv (k:=e_ mv (k:=?_)))
  refine cp_ (vs:=[_,_,_]) rfl (tAdd (x := x * y % B64) (y := c) (c := 0) (by decide)) (k:=e_ mv (k:=e_ exr (k:=e_ exr (k:=e_ asn (k:=e_ asn (k:=on_ (qn_ (ws_ (wr_ (e_ mv (k:=e_ mv (k:=?_))))))))))))
  refine e_ (evq (ev_addL 18446744073709551616 rfl rfl rfl rfl (x * y / B64) ((x * y % B64 + c + 0) / B64) rfl rfl (by simp only [B64]; omega)) (congrArg (fun n : Nat => Value.int .u64 (n : Int)) (show _ = (x * y + c) / B64 by simp only [B64]; omega))) (k:=?_)
  refine e_ mv (k:=e_ asn (k:=?_))
  refine e_ (asv (v := .int .u64 (((x * y + c) % B64 : Nat) : Int)) rfl (congrArg (fun n : Nat => Value.int .u64 (n : Int)) (show _ = (x * y + c) % B64 by simp only [B64]; omega))) (k:=?_)
  refine on_ (qn_ (wt_ (rt_ Tryz.results131 (k:=?_))))
  exact ⟨_, hsb, rfl, rfl⟩
def bitLen (n : Nat) : Nat := if n = 0 then 0 else Nat.log2 n + 1
theorem bitLen_lt (n : Nat) : n < 2 ^ bitLen n := by
  rw [bitLen]; split
  · omega
  · exact Nat.lt_log2_self
theorem bitLen_le {n : Nat} (h : n ≠ 0) : 2 ^ (bitLen n - 1) ≤ n := by
  rw [bitLen, if_neg h, Nat.add_sub_cancel]; exact Nat.log2_self_le h
theorem bitLen_is {n k : Nat} (h1 : 2 ^ k ≤ n) (h2 : n < 2 ^ (k + 1)) : bitLen n = k + 1 := by
  have h0 : n ≠ 0 := by have := Nat.two_pow_pos k; omega
  rw [bitLen, if_neg h0]
  have h3 : Nat.log2 n < k + 1 := (Nat.log2_lt h0).2 h2
  have h4 : ¬ Nat.log2 n < k := fun h => by have := (Nat.log2_lt h0).1 h; omega
  omega
theorem bl_shift (n k : Nat) (h : 2 ^ k ≤ n) : bitLen n = bitLen (n / 2 ^ k) + k := by
  have hp := Nat.two_pow_pos k
  have h0 : n / 2 ^ k ≠ 0 := by
    have := Nat.div_pos h hp; omega
  obtain ⟨m, hm⟩ : ∃ m, bitLen (n / 2 ^ k) = m + 1 := ⟨Nat.log2 (n / 2 ^ k), by rw [bitLen, if_neg h0]⟩
  have h1 := bitLen_le h0
  have h2 := bitLen_lt (n / 2 ^ k)
  rw [hm] at h1 h2 ⊢
  rw [Nat.add_sub_cancel] at h1
  rw [show m + 1 + k = (m + k) + 1 by omega]
  apply bitLen_is
  · rw [Nat.pow_add]; exact (Nat.le_div_iff_mul_le hp).1 h1
  · rw [show m + k + 1 = (m + 1) + k by omega, Nat.pow_add]; exact (Nat.div_lt_iff_lt_mul hp).1 h2
def lenTab : ByteArray := ⟨#[0, 1, 2, 2, 3, 3, 3, 3, 4, 4, 4, 4, 4, 4, 4, 4, 5, 5, 5, 5, 5, 5, 5, 5, 5, 5, 5, 5, 5, 5, 5, 5, 6, 6, 6, 6, 6, 6, 6, 6, 6, 6, 6, 6, 6, 6, 6, 6, 6, 6, 6, 6, 6, 6, 6, 6, 6, 6, 6, 6, 6, 6, 6, 6, 7, 7, 7, 7, 7, 7, 7, 7, 7, 7, 7, 7, 7, 7, 7, 7, 7, 7, 7, 7, 7, 7, 7, 7, 7, 7, 7, 7, 7, 7, 7, 7, 7, 7, 7, 7, 7, 7, 7, 7, 7, 7, 7, 7, 7, 7, 7, 7, 7, 7, 7, 7, 7, 7, 7, 7, 7, 7, 7, 7, 7, 7, 7, 7, 8, 8, 8, 8, 8, 8, 8, 8, 8, 8, 8, 8, 8, 8, 8, 8, 8, 8, 8, 8, 8, 8, 8, 8, 8, 8, 8, 8, 8, 8, 8, 8, 8, 8, 8, 8, 8, 8, 8, 8, 8, 8, 8, 8, 8, 8, 8, 8, 8, 8, 8, 8, 8, 8, 8, 8, 8, 8, 8, 8, 8, 8, 8, 8, 8, 8, 8, 8, 8, 8, 8, 8, 8, 8, 8, 8, 8, 8, 8, 8, 8, 8, 8, 8, 8, 8, 8, 8, 8, 8, 8, 8, 8, 8, 8, 8, 8, 8, 8, 8, 8, 8, 8, 8, 8, 8, 8, 8, 8, 8, 8, 8, 8, 8, 8, 8, 8, 8, 8, 8, 8, 8, 8, 8, 8, 8, 8, 8]⟩
theorem tab_all : ∀ i : Fin 256, at0 (byts lenTab) i.val = bitLen i.val := by decide +kernel
theorem tab_at {i : Nat} (h : i < 256) : at0 (byts lenTab) i = bitLen i := tab_all ⟨i, h⟩
theorem bl8 (n : Nat) (h : n < 256) : bitLen n ≤ 8 := by
  by_cases h0 : n = 0
  · subst h0; decide
  · have h1 := bitLen_le h0
    rcases Nat.lt_or_ge 8 (bitLen n) with h2 | h2
    · exfalso
      have h3 : 2 ^ 8 ≤ 2 ^ (bitLen n - 1) := Nat.pow_le_pow_right (by decide) (by omega)
      omega
    · exact h2
theorem lenTab_size : lenTab.size = 256 := rfl
theorem tLen64 {G : Base} {H : Heap} {x : Nat} (hx : x < 18446744073709551616) : SC G Tryz.prog 121 [.int .u64 (x : Int)] H (fun v H' => v = .int .i64 ((bitLen x : Nat) : Int) ∧ H' = H) := by
  have hsz := lenTab_size
  refine SC.out (sc_walk Tryz.func121 rfl Tryz.ntmps121 (by kernel_rfl) (Nat.le_of_ble_eq_true rfl) ?_)
  refine ws_ (wr_ (e_ asn (k:=on_ (qn_ (ws_ (ws_ (wr_ (e_ mv (k:=e_ ige (k:=on_ (qn_ (wi_ (k:=fun h1=>?_) (m:=fun h1=>?_)))))))))))))
  · have hs1 := bl_shift x 32 (by omega)
    refine ws_ (wr_ (e_ mv (k:=?_)))
    refine e_ (ev_shru rfl rfl _ 32 rfl rfl (by first | decide | (show _ ≤ 64; omega))) (k:=?_)
    refine e_ asn (k:=on_ (qn_ (wr_ (e_ asn (k:=on_ (qn_ (ws_ (ws_ (wr_ (e_ mv (k:=e_ ige (k:=on_ (qn_ (?_))))))))))))))
    refine wi_ (k:=fun h2=>?_) (m:=fun h2=>?_)
    · first | have hs2 := bl_shift (x / 2 ^ 32) 16 (by omega) | have hs2 := bl_shift x 16 (by omega)
      refine ws_ (wr_ (e_ mv (k:=?_)))
      refine e_ (ev_shru rfl rfl _ 16 rfl rfl (by first | decide | (show _ ≤ 64; omega))) (k:=?_)
      refine e_ asn (k:=on_ (qn_ (wr_ (e_ mv (k:=e_ iad (k:=e_ asn (k:=on_ (qn_ (ws_ (ws_ (wr_ (e_ mv (k:=e_ ige (k:=?_))))))))))))))
      refine on_ (qn_ (wi_ (k:=fun h3=>?_) (m:=fun h3=>?_)))
      · first | have hs3 := bl_shift (x / 2 ^ 32 / 2 ^ 16) 8 (by omega) | have hs3 := bl_shift (x / 2 ^ 32) 8 (by omega) | have hs3 := bl_shift (x / 2 ^ 16) 8 (by omega) | have hs3 := bl_shift x 8 (by omega)
        refine ws_ (wr_ (e_ mv (k:=?_)))
        refine e_ (ev_shru rfl rfl _ 8 rfl rfl (by first | decide | (show _ ≤ 64; omega))) (k:=?_)
        refine e_ asn (k:=on_ (qn_ (wr_ (e_ mv (k:=e_ iad (k:=e_ asn (k:=on_ (qn_ (ws_ (wr_ (?_)))))))))))
        first | have hb8 := bl8 (x) (by omega) | have hb8 := bl8 (x / 2 ^ 8) (by omega) | have hb8 := bl8 (x / 2 ^ 16) (by omega) | have hb8 := bl8 (x / 2 ^ 16 / 2 ^ 8) (by omega) | have hb8 := bl8 (x / 2 ^ 32) (by omega) | have hb8 := bl8 (x / 2 ^ 32 / 2 ^ 8) (by omega) | have hb8 := bl8 (x / 2 ^ 32 / 2 ^ 16) (by omega) | have hb8 := bl8 (x / 2 ^ 32 / 2 ^ 16 / 2 ^ 8) (by omega)
        refine e_ mv (k:=e_ mv (k:=?_))
        refine e_ (ev_convL 256 rfl rfl rfl _ rfl (by omega)) (k:=?_)
        refine e_ (evq ixs (congrArg (fun n : Nat => Value.int .u8 (n : Int)) (tab_at (by omega)))) (k:=?_)
        refine e_ (ev_conv64 rfl (by omega)) (k:=?_)
        refine e_ iad (k:=e_ asn (k:=on_ (qn_ (wt_ (rt_ Tryz.results121 (k:=?_))))))
        exact ⟨_, hsb, congrArg (Value.int .i64) (by omega), rfl⟩
      refine wk_ (qn_ (ws_ (wr_ (?_))))
      first | have hb8 := bl8 (x) (by omega) | have hb8 := bl8 (x / 2 ^ 8) (by omega) | have hb8 := bl8 (x / 2 ^ 16) (by omega) | have hb8 := bl8 (x / 2 ^ 16 / 2 ^ 8) (by omega) | have hb8 := bl8 (x / 2 ^ 32) (by omega) | have hb8 := bl8 (x / 2 ^ 32 / 2 ^ 8) (by omega) | have hb8 := bl8 (x / 2 ^ 32 / 2 ^ 16) (by omega) | have hb8 := bl8 (x / 2 ^ 32 / 2 ^ 16 / 2 ^ 8) (by omega)
      refine e_ mv (k:=e_ mv (k:=?_))
      refine e_ (ev_convL 256 rfl rfl rfl _ rfl (by omega)) (k:=?_)
      refine e_ (evq ixs (congrArg (fun n : Nat => Value.int .u8 (n : Int)) (tab_at (by omega)))) (k:=?_)
      refine e_ (ev_conv64 rfl (by omega)) (k:=?_)
      refine e_ iad (k:=e_ asn (k:=on_ (qn_ (wt_ (rt_ Tryz.results121 (k:=?_))))))
      exact ⟨_, hsb, congrArg (Value.int .i64) (by omega), rfl⟩
    refine wk_ (qn_ (ws_ (ws_ (wr_ (e_ mv (k:=e_ ige (k:=on_ (qn_ (wi_ (k:=fun h4=>?_) (m:=fun h4=>?_))))))))))
    · first | have hs3 := bl_shift (x / 2 ^ 32 / 2 ^ 16) 8 (by omega) | have hs3 := bl_shift (x / 2 ^ 32) 8 (by omega) | have hs3 := bl_shift (x / 2 ^ 16) 8 (by omega) | have hs3 := bl_shift x 8 (by omega)
      refine ws_ (wr_ (e_ mv (k:=?_)))
      refine e_ (ev_shru rfl rfl _ 8 rfl rfl (by first | decide | (show _ ≤ 64; omega))) (k:=?_)
      refine e_ asn (k:=on_ (qn_ (wr_ (e_ mv (k:=e_ iad (k:=e_ asn (k:=on_ (qn_ (ws_ (wr_ (?_)))))))))))
      first | have hb8 := bl8 (x) (by omega) | have hb8 := bl8 (x / 2 ^ 8) (by omega) | have hb8 := bl8 (x / 2 ^ 16) (by omega) | have hb8 := bl8 (x / 2 ^ 16 / 2 ^ 8) (by omega) | have hb8 := bl8 (x / 2 ^ 32) (by omega) | have hb8 := bl8 (x / 2 ^ 32 / 2 ^ 8) (by omega) | have hb8 := bl8 (x / 2 ^ 32 / 2 ^ 16) (by omega) | have hb8 := bl8 (x / 2 ^ 32 / 2 ^ 16 / 2 ^ 8) (by omega)
      refine e_ mv (k:=e_ mv (k:=?_))
      refine e_ (ev_convL 256 rfl rfl rfl _ rfl (by omega)) (k:=?_)
      refine e_ (evq ixs (congrArg (fun n : Nat => Value.int .u8 (n : Int)) (tab_at (by omega)))) (k:=?_)
      refine e_ (ev_conv64 rfl (by omega)) (k:=?_)
      refine e_ iad (k:=e_ asn (k:=on_ (qn_ (wt_ (rt_ Tryz.results121 (k:=?_))))))
      exact ⟨_, hsb, congrArg (Value.int .i64) (by omega), rfl⟩
    refine wk_ (qn_ (ws_ (wr_ (?_))))
    first | have hb8 := bl8 (x) (by omega) | have hb8 := bl8 (x / 2 ^ 8) (by omega) | have hb8 := bl8 (x / 2 ^ 16) (by omega) | have hb8 := bl8 (x / 2 ^ 16 / 2 ^ 8) (by omega) | have hb8 := bl8 (x / 2 ^ 32) (by omega) | have hb8 := bl8 (x / 2 ^ 32 / 2 ^ 8) (by omega) | have hb8 := bl8 (x / 2 ^ 32 / 2 ^ 16) (by omega) | have hb8 := bl8 (x / 2 ^ 32 / 2 ^ 16 / 2 ^ 8) (by omega)
    refine e_ mv (k:=e_ mv (k:=?_))
    refine e_ (ev_convL 256 rfl rfl rfl _ rfl (by omega)) (k:=?_)
    refine e_ (evq ixs (congrArg (fun n : Nat => Value.int .u8 (n : Int)) (tab_at (by omega)))) (k:=?_)
    refine e_ (ev_conv64 rfl (by omega)) (k:=?_)
    refine e_ iad (k:=e_ asn (k:=on_ (qn_ (wt_ (rt_ Tryz.results121 (k:=?_))))))
    exact ⟨_, hsb, congrArg (Value.int .i64) (by omega), rfl⟩
  refine wk_ (qn_ (ws_ (ws_ (wr_ (e_ mv (k:=e_ ige (k:=on_ (qn_ (wi_ (k:=fun h5=>?_) (m:=fun h5=>?_))))))))))
  · first | have hs2 := bl_shift (x / 2 ^ 32) 16 (by omega) | have hs2 := bl_shift x 16 (by omega)
    refine ws_ (wr_ (e_ mv (k:=?_)))
    refine e_ (ev_shru rfl rfl _ 16 rfl rfl (by first | decide | (show _ ≤ 64; omega))) (k:=?_)
    refine e_ asn (k:=on_ (qn_ (wr_ (e_ mv (k:=e_ iad (k:=e_ asn (k:=on_ (qn_ (ws_ (ws_ (wr_ (e_ mv (k:=e_ ige (k:=?_))))))))))))))
    refine on_ (qn_ (wi_ (k:=fun h6=>?_) (m:=fun h6=>?_)))
    · first | have hs3 := bl_shift (x / 2 ^ 32 / 2 ^ 16) 8 (by omega) | have hs3 := bl_shift (x / 2 ^ 32) 8 (by omega) | have hs3 := bl_shift (x / 2 ^ 16) 8 (by omega) | have hs3 := bl_shift x 8 (by omega)
      refine ws_ (wr_ (e_ mv (k:=?_)))
      refine e_ (ev_shru rfl rfl _ 8 rfl rfl (by first | decide | (show _ ≤ 64; omega))) (k:=?_)
      refine e_ asn (k:=on_ (qn_ (wr_ (e_ mv (k:=e_ iad (k:=e_ asn (k:=on_ (qn_ (ws_ (wr_ (?_)))))))))))
      first | have hb8 := bl8 (x) (by omega) | have hb8 := bl8 (x / 2 ^ 8) (by omega) | have hb8 := bl8 (x / 2 ^ 16) (by omega) | have hb8 := bl8 (x / 2 ^ 16 / 2 ^ 8) (by omega) | have hb8 := bl8 (x / 2 ^ 32) (by omega) | have hb8 := bl8 (x / 2 ^ 32 / 2 ^ 8) (by omega) | have hb8 := bl8 (x / 2 ^ 32 / 2 ^ 16) (by omega) | have hb8 := bl8 (x / 2 ^ 32 / 2 ^ 16 / 2 ^ 8) (by omega)
      refine e_ mv (k:=e_ mv (k:=?_))
      refine e_ (ev_convL 256 rfl rfl rfl _ rfl (by omega)) (k:=?_)
      refine e_ (evq ixs (congrArg (fun n : Nat => Value.int .u8 (n : Int)) (tab_at (by omega)))) (k:=?_)
      refine e_ (ev_conv64 rfl (by omega)) (k:=?_)
      refine e_ iad (k:=e_ asn (k:=on_ (qn_ (wt_ (rt_ Tryz.results121 (k:=?_))))))
      exact ⟨_, hsb, congrArg (Value.int .i64) (by omega), rfl⟩
    refine wk_ (qn_ (ws_ (wr_ (?_))))
    first | have hb8 := bl8 (x) (by omega) | have hb8 := bl8 (x / 2 ^ 8) (by omega) | have hb8 := bl8 (x / 2 ^ 16) (by omega) | have hb8 := bl8 (x / 2 ^ 16 / 2 ^ 8) (by omega) | have hb8 := bl8 (x / 2 ^ 32) (by omega) | have hb8 := bl8 (x / 2 ^ 32 / 2 ^ 8) (by omega) | have hb8 := bl8 (x / 2 ^ 32 / 2 ^ 16) (by omega) | have hb8 := bl8 (x / 2 ^ 32 / 2 ^ 16 / 2 ^ 8) (by omega)
    refine e_ mv (k:=e_ mv (k:=?_))
    refine e_ (ev_convL 256 rfl rfl rfl _ rfl (by omega)) (k:=?_)
    refine e_ (evq ixs (congrArg (fun n : Nat => Value.int .u8 (n : Int)) (tab_at (by omega)))) (k:=?_)
    refine e_ (ev_conv64 rfl (by omega)) (k:=?_)
    refine e_ iad (k:=e_ asn (k:=on_ (qn_ (wt_ (rt_ Tryz.results121 (k:=?_))))))
    exact ⟨_, hsb, congrArg (Value.int .i64) (by omega), rfl⟩
  refine wk_ (qn_ (ws_ (ws_ (wr_ (e_ mv (k:=e_ ige (k:=on_ (qn_ (wi_ (k:=fun h7=>?_) (m:=fun h7=>?_))))))))))
  · first | have hs3 := bl_shift (x / 2 ^ 32 / 2 ^ 16) 8 (by omega) | have hs3 := bl_shift (x / 2 ^ 32) 8 (by omega) | have hs3 := bl_shift (x / 2 ^ 16) 8 (by omega) | have hs3 := bl_shift x 8 (by omega)
    refine ws_ (wr_ (e_ mv (k:=?_)))
    refine e_ (ev_shru rfl rfl _ 8 rfl rfl (by first | decide | (show _ ≤ 64; omega))) (k:=?_)
    refine e_ asn (k:=on_ (qn_ (wr_ (e_ mv (k:=e_ iad (k:=e_ asn (k:=on_ (qn_ (ws_ (wr_ (?_)))))))))))
    first | have hb8 := bl8 (x) (by omega) | have hb8 := bl8 (x / 2 ^ 8) (by omega) | have hb8 := bl8 (x / 2 ^ 16) (by omega) | have hb8 := bl8 (x / 2 ^ 16 / 2 ^ 8) (by omega) | have hb8 := bl8 (x / 2 ^ 32) (by omega) | have hb8 := bl8 (x / 2 ^ 32 / 2 ^ 8) (by omega) | have hb8 := bl8 (x / 2 ^ 32 / 2 ^ 16) (by omega) | have hb8 := bl8 (x / 2 ^ 32 / 2 ^ 16 / 2 ^ 8) (by omega)
    refine e_ mv (k:=e_ mv (k:=?_))
    refine e_ (ev_convL 256 rfl rfl rfl _ rfl (by omega)) (k:=?_)
    refine e_ (evq ixs (congrArg (fun n : Nat => Value.int .u8 (n : Int)) (tab_at (by omega)))) (k:=?_)
    refine e_ (ev_conv64 rfl (by omega)) (k:=?_)
    refine e_ iad (k:=e_ asn (k:=on_ (qn_ (wt_ (rt_ Tryz.results121 (k:=?_))))))
    exact ⟨_, hsb, congrArg (Value.int .i64) (by omega), rfl⟩
  refine wk_ (qn_ (ws_ (wr_ (?_))))
  first | have hb8 := bl8 (x) (by omega) | have hb8 := bl8 (x / 2 ^ 8) (by omega) | have hb8 := bl8 (x / 2 ^ 16) (by omega) | have hb8 := bl8 (x / 2 ^ 16 / 2 ^ 8) (by omega) | have hb8 := bl8 (x / 2 ^ 32) (by omega) | have hb8 := bl8 (x / 2 ^ 32 / 2 ^ 8) (by omega) | have hb8 := bl8 (x / 2 ^ 32 / 2 ^ 16) (by omega) | have hb8 := bl8 (x / 2 ^ 32 / 2 ^ 16 / 2 ^ 8) (by omega)
  refine e_ mv (k:=e_ mv (k:=?_))
  refine e_ (ev_convL 256 rfl rfl rfl _ rfl (by omega)) (k:=?_)
  refine e_ (evq ixs (congrArg (fun n : Nat => Value.int .u8 (n : Int)) (tab_at (by omega)))) (k:=?_)
  refine e_ (ev_conv64 rfl (by omega)) (k:=?_)
  refine e_ iad (k:=e_ asn (k:=on_ (qn_ (wt_ (rt_ Tryz.results121 (k:=?_))))))
  exact ⟨_, hsb, congrArg (Value.int .i64) (by omega), rfl⟩
theorem tLen {G : Base} {H : Heap} {x : Nat} (hx : x < 18446744073709551616) : SC G Tryz.prog 80 [.int .u64 (x : Int)] H (fun v H' => v = .int .i64 ((bitLen x : Nat) : Int) ∧ H' = H) := by
  refine SC.out (sc_walk Tryz.func80 rfl Tryz.ntmps80 (by kernel_rfl) (Nat.le_of_ble_eq_true rfl) ?_)
  refine ws_ (wr_ (e_ asn (k:=on_ (qn_ (ws_ (iff_ (k:=wk_ (qn_ (ws_ (wr_ (e_ mv (k:=?_))))))))))))
  refine cp_ (vs:=[_]) rfl (tLen64 hx) (k:=e_ asn (k:=on_ (qn_ (wt_ (rt_ Tryz.results80 (k:=?_))))))
  exact ⟨_, hsb, rfl, rfl⟩
end Go.Sx
