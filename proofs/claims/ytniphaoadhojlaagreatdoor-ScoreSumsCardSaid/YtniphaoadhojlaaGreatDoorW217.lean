import Derived.Test.YtniphaoadhojlaaGreatDoorFx
import Derived.Test.YtniphaoadhojlaaGreatDoorSxP
import Derived.Test.YtniphaoadhojlaaGreatDoorSxV
import Derived.Test.YtniphaoadhojlaaGreatDoorP50
import Derived.Test.YtniphaoadhojlaaGreatDoorW216
set_option linter.all false
namespace Go.Sx
open Go Go.Proofs Tryz
set_option maxRecDepth 100000

/-! ## strconv.FormatUint of one digit, score.Text, strings.Cut at a byte, strconv.ParseUint of "1" -/
def digS : ByteArray := ⟨#[48, 49, 50, 51, 52, 53, 54, 55, 56, 57, 97, 98, 99, 100, 101, 102, 103, 104, 105, 106, 107, 108, 109, 110, 111, 112, 113, 114, 115, 116, 117, 118, 119, 120, 121, 122]⟩
theorem dig_at : ∀ d : Fin 10, byts (digS.extract d.val (d.val + 1)) = [48 + d.val] := by decide +kernel
theorem tSmall {G : Base} {H : Heap} {d : Nat} (hd : d < 10) : SC G Tryz.prog 81 [.int .i64 (d : Int)] H (fun v H' => (∃ q, v = .string q ∧ byts q = [48 + d]) ∧ H' = H) := by
  refine SC.out (sc_walk Tryz.func81 rfl Tryz.ntmps81 (by kernel_rfl) (Nat.le_of_ble_eq_true rfl) ?_)
  refine ws_ (wr_ (e_ asn (k:=on_ (qn_ (ws_ (ws_ (wr_ (e_ mv (k:=e_ ilt (k:=on_ (qn_ (wi_ (k:=fun h1=>?_) (m:=fun h1=>?_)))))))))))))
  · refine ws_ (wr_ (e_ mv (k:=e_ mv (k:=e_ iad (k:=e_ (sls3 (h2:=(by show d + 1 ≤ 36; omega))) (k:=e_ asn (k:=on_ (qn_ (wt_ (qr_ (rt_ Tryz.results81 (k:=?_))))))))))))
    exact ⟨_, hsb, ⟨_, rfl, dig_at ⟨d, hd⟩⟩, rfl⟩
  exact absurd h1 (by omega) -- DONE
theorem tFmt0 {G : Base} {H : Heap} {d : Nat} (hd : d < 10) : SC G Tryz.prog 49 [.int .u64 (d : Int), .int .i64 10] H (fun v H' => (∃ q, v = .string q ∧ byts q = [48 + d]) ∧ H' = H) := by
  refine SC.out (sc_walk Tryz.func49 rfl Tryz.ntmps49 (by kernel_rfl) (Nat.le_of_ble_eq_true rfl) ?_)
  refine ws_ (wr_ (e_ asn (k:=on_ (qn_ (ws_ (ws_ (wr_ (e_ mv (k:=e_ ieq (k:=on_ (qn_ (wi_ (k:=fun h1=>?_) (m:=fun h1=>?_)))))))))))))
  · refine ws_ (ws_ (wr_ (e_ mv (k:=e_ ilt (k:=on_ (qn_ (wi_ (k:=fun h2=>?_) (m:=fun h2=>?_))))))))
    · refine ws_ (wr_ (e_ mv (k:=?_)))
      refine e_ (ev_conv64 rfl (by omega)) (k:=?_)
      refine s_ (st_call (vs := [_]) rfl (tSmall hd)) (k:=?_)
      rintro _ _ ⟨⟨q, rfl, hq⟩, rfl⟩
      refine e_ asn (k:=on_ (qn_ (wt_ (qr_ (qr_ (rt_ Tryz.results49 (k:=?_)))))))
      exact ⟨_, hsb, ⟨q, rfl, hq⟩, rfl⟩
    exact absurd h2 (by omega) -- DONE
  exact absurd h1 (by decide) -- DONE
theorem tFmt {G : Base} {H : Heap} {d : Nat} (hd : d < 10) : SC G Tryz.prog 29 [.int .u64 (d : Int), .int .i64 10] H (fun v H' => (∃ q, v = .string q ∧ byts q = [48 + d]) ∧ H' = H) := by
  refine SC.out (sc_walk Tryz.func29 rfl Tryz.ntmps29 (by kernel_rfl) (Nat.le_of_ble_eq_true rfl) ?_)
  refine ws_ (wr_ (e_ asn (k:=on_ (qn_ (ws_ (wr_ (e_ mv (k:=e_ mv (k:=?_)))))))))
  refine s_ (st_call (vs := [_, _]) rfl (tFmt0 hd)) (k:=?_)
  rintro _ _ ⟨⟨q, rfl, hq⟩, rfl⟩
  refine e_ asn (k:=on_ (qn_ (wt_ (rt_ Tryz.results29 (k:=?_)))))
  exact ⟨_, hsb, ⟨q, rfl, hq⟩, rfl⟩
theorem frac_cons {k r : Nat} (hr : 0 < r) : fracL (k + 1) r = (48 + r * 10 / 262144) :: fracL k (r * 10 % 262144) := by
  rw [fracL, if_neg (by omega)]
theorem frac_nil (k : Nat) : fracL k 0 = [] := by cases k <;> rfl
theorem and_262143 (x : Nat) : x &&& 262143 = x % 262144 := Nat.and_two_pow_sub_one_eq_mod x 18
theorem tText {G : Base} {H : Heap} {x : Nat} (hx : x / 262144 < 10) : SC G Tryz.prog 12 [.int .u64 (x : Int)] H (fun v H' => (∃ q, v = .string q ∧ byts q = textL x) ∧ H' = H) := by
  refine SC.out (sc_walk Tryz.func12 rfl Tryz.ntmps12 (by kernel_rfl) (Nat.le_of_ble_eq_true rfl) ?_)
  refine ws_ (wr_ (e_ asn (k:=on_ (qn_ (ws_ (wr_ (e_ mv (k:=?_))))))))
  refine e_ (evq (ev_shru rfl rfl x 18 rfl rfl (by decide)) (show Value.int .u64 ((x / 2 ^ 18 : Nat) : Int) = .int .u64 ((x / 262144 : Nat) : Int) from rfl)) (k:=?_)
  refine s_ (st_call (vs := [_, _]) rfl (tFmt hx)) (k:=?_)
  rintro _ _ ⟨⟨q, rfl, hq⟩, rfl⟩
  refine e_ asn (k:=on_ (qn_ (ws_ (wr_ (e_ mv (k:=?_))))))
  refine e_ (evq (ev_andM 18446744073709551616 rfl rfl rfl rfl x 262143 rfl rfl (by omega) (by decide)) (show Value.int .u64 ((x &&& 262143 : Nat) : Int) = .int .u64 ((x % 262144 : Nat) : Int) from by rw [and_262143])) (k:=?_)
  refine e_ asn (k:=on_ (qn_ (ws_ (ws_ (wr_ (e_ mv (k:=e_ ieq (k:=on_ (qn_ (wi_ (k:=fun h1=>?_) (m:=fun h1=>?_)))))))))))
  · refine ws_ (wr_ (e_ mv (k:=e_ asn (k:=on_ (qn_ (wt_ (qr_ (rt_ Tryz.results12 (k:=?_)))))))))
    exact ⟨_, hsb, ⟨q, rfl, by rw [hq, textL, if_pos (by have h9 := h1; omega), dec_small hx]; rfl⟩, rfl⟩
  have hx0 := h1
  refine wk_ (qn_ (ws_ (wr_ (?_))))
  have hqz : q.size = 1 := by rw [← byts_length, hq]; rfl
  refine e_ mv (k:=e_ (sad_ (h:=by rw [hqz]; decide)) (k:=e_ asn (k:=on_ (qn_ (ws_ (wb_ (wl2_ (ByteArray × Nat × Nat) (fun y => y.2.1 < 262144 ∧ y.2.1 * 2 ^ y.2.2 % 262144 = 0 ∧ byts y.1 ++ fracL y.2.2 y.2.1 = textL x ∧ y.1.size + y.2.2 ≤ 40) (fun y => [(3, .string y.1), (4, .int .u64 ((y.2.1 : Nat) : Int))]) [] (fun y => []) _ (fun y => y.2.2) ((_, _, 18)) (h0:=?_) (k:=?_))))))))
  · try dsimp only
    refine ⟨by omega, by rw [show (2 : Nat) ^ 18 = 262144 from rfl, Nat.mul_mod_left], ?_, ?_⟩
    · rw [byts_append, hq, textL, if_neg (by omega), dec_small hx]; rfl
    · rw [ByteArray.size_append, hqz]; decide
  rintro ⟨o, r, k⟩ ⟨hr, hz, ho, hsz⟩
  try dsimp only [List.cons_append, List.nil_append] at *
  refine ws_ (ws_ (wr_ (e_ mv (k:=e_ igt (k:=on_ (qn_ (wi_ (k:=fun h2=>?_) (m:=fun h2=>?_))))))))
  · obtain ⟨j, rfl⟩ : ∃ j, k = j + 1 := by
      cases k with
      | zero => exfalso; have h9 := h2; rw [Nat.pow_zero] at hz; omega
      | succ j => exact ⟨j, rfl⟩
    refine wk_ (qn_ (wb_ (ws_ (wr_ (e_ mv (k:=?_))))))
    refine e_ (evq (ev_mulM 18446744073709551616 rfl rfl rfl rfl r 10 rfl rfl) (show Value.int .u64 ((r * 10 % 18446744073709551616 : Nat) : Int) = .int .u64 ((r * 10 : Nat) : Int) from by rw [Nat.mod_eq_of_lt (by omega)])) (k:=?_)
    refine e_ asn (k:=on_ (qn_ (ws_ (wr_ (e_ mv (k:=e_ mv (k:=?_)))))))
    refine e_ (evq (ev_shru rfl rfl (r * 10) 18 rfl rfl (by decide)) (show Value.int .u64 ((r * 10 / 2 ^ 18 : Nat) : Int) = .int .u64 ((r * 10 / 262144 : Nat) : Int) from rfl)) (k:=?_)
    refine s_ (st_call (vs := [_, _]) rfl (tFmt (d := r * 10 / 262144) (by omega))) (k:=?_)
    rintro _ _ ⟨⟨q2, rfl, hq2⟩, rfl⟩
    refine e_ (sad_ (h:=by rw [← byts_length q2, hq2]; show o.size + 1 ≤ _; omega)) (k:=e_ asn (k:=on_ (qn_ (wr_ (e_ mv (k:=?_))))))
    refine e_ (evq (ev_andM 18446744073709551616 rfl rfl rfl rfl (r * 10) 262143 rfl rfl (by omega) (by decide)) (show Value.int .u64 ((r * 10 &&& 262143 : Nat) : Int) = .int .u64 ((r * 10 % 262144 : Nat) : Int) from by rw [and_262143])) (k:=?_)
    refine e_ asn (k:=on_ (bn_ (?_)))
    refine ln_ ((_, _, j)) (k:=?_)
    try dsimp only
    refine ⟨by omega, ?_, ?_, ?_⟩
    · rw [Nat.mod_mul_mod, show r * 10 * 2 ^ j = r * 2 ^ (j + 1) * 5 by rw [Nat.pow_succ]; generalize 2 ^ j = z; rw [Nat.mul_assoc, Nat.mul_assoc, Nat.mul_assoc]; congr 1; omega, Nat.mul_mod, hz]
    · rw [byts_append, hq2, ← ho, frac_cons (by omega), List.append_assoc]; rfl
    · rw [ByteArray.size_append, ← byts_length q2, hq2]; show o.size + 1 + j ≤ 40; omega
  obtain rfl : r = 0 := by have h9 := h2; omega
  refine we_ (qe_ (le_ (bh_ (qn_ (ws_ (wr_ (e_ mv (k:=e_ asn (k:=on_ (qn_ (wt_ (rt_ Tryz.results12 (k:=?_)))))))))))))
  exact ⟨_, hsb, ⟨_, rfl, by rw [← ho, frac_nil, List.append_nil]⟩, rfl⟩
end Go.Sx
