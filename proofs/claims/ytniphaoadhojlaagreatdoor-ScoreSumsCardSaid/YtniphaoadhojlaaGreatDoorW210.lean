import Derived.Test.YtniphaoadhojlaaGreatDoorFx
import Derived.Test.YtniphaoadhojlaaGreatDoorSxP
import Derived.Test.YtniphaoadhojlaaGreatDoorW209
set_option linter.all false
namespace Go.Sx
open Go Go.Proofs Tryz
set_option maxRecDepth 100000

theorem or_16 (a b : Nat) (hb : b < 16) : a * 16 ||| b = a * 16 + b := by
  have := Nat.two_pow_add_eq_or_of_lt (i := 4) (b := b) hb a
  rw [Nat.mul_comm a 16]; exact this.symm
theorem tDivWW {G : Base} {H : Heap} {x1 x0 : Nat} (h1 : x1 < 1000000000000000000) (h0 : x0 < 18446744073709551616) : SC G Tryz.prog 151 [.int .u64 (x1 : Int), .int .u64 (x0 : Int), .int .u64 1000000000000000000, .int .u64 2820903858849102350] H (fun v H' => v = .tuple #[.int .u64 (((x1 * B64 + x0) / 1000000000000000000 : Nat) : Int), .int .u64 (((x1 * B64 + x0) % 1000000000000000000 : Nat) : Int)] ∧ H' = H) := by
  obtain ⟨y1, hy1⟩ : ∃ y1, y1 = x1 * 16 + x0 / 2 ^ 60 := ⟨_, rfl⟩
  obtain ⟨y0, hy0⟩ : ∃ y0, y0 = x0 * 2 ^ 4 % 18446744073709551616 := ⟨_, rfl⟩
  have hyd : y1 < 16000000000000000000 := by omega
  have hyb : y0 < 18446744073709551616 := by omega
  have hX : y1 * B64 + y0 = 16 * (x1 * B64 + x0) := by simp only [B64]; omega
  have hlaw := divWW_law (x1 := y1) (x0 := y0) hyd (by simp only [B64]; omega)
  simp only at hlaw
  obtain ⟨l1, l2, l3⟩ := hlaw
  obtain ⟨T, hT⟩ : ∃ T, T = (2820903858849102350 * y1 + y0) / B64 + y1 := ⟨_, rfl⟩
  rw [← hT] at l1 l2 l3
  refine SC.out (sc_walk Tryz.func151 rfl Tryz.ntmps151 (by kernel_rfl) (Nat.le_of_ble_eq_true rfl) ?_)
  refine ws_ (wr_ (e_ asn (k:=e_ asn (k:=on_ (qn_ (ws_ (wr_ (e_ mv (k:=?_)))))))))
  refine cp_ (vs:=[_]) rfl (tNlz (x := 1000000000000000000) (n := 4) (by decide) (by rw [bl_1e18])) (k:=e_ asn (k:=on_ (qn_ (ws_ (ws_ (wr_ (e_ mv (k:=e_ ine (k:=on_ (qn_ (wi_ (k:=fun h1=>?_) (m:=fun h1=>?_))))))))))))
  · refine ws_ (wr_ (e_ mv (k:=e_ mv (k:=?_))))
    refine e_ (evq (ev_shlM 18446744073709551616 rfl rfl rfl rfl x1 4 rfl rfl) (congrArg (fun n : Nat => Value.int .u64 (n : Int)) (show x1 * 2 ^ 4 % 18446744073709551616 = x1 * 16 by omega))) (k:=?_)
    refine e_ mv (k:=e_ mv (k:=?_))
    refine e_ (evq (ev_subL 18446744073709551616 rfl rfl rfl rfl 64 4 rfl rfl (by decide) (by decide)) (show Value.int .u64 ((64 - 4 : Nat) : Int) = .int .u64 60 from rfl)) (k:=?_)
    refine e_ (ev_shru rfl rfl x0 60 rfl rfl (by decide)) (k:=?_)
    refine e_ (evq (ev_orM 18446744073709551616 rfl rfl rfl rfl (x1 * 16) (x0 / 2 ^ 60) rfl rfl (by omega) (by omega)) (congrArg (fun n : Nat => Value.int .u64 (n : Int)) ((or_16 x1 (x0 / 2 ^ 60) (by omega)).trans hy1.symm))) (k:=?_)
    refine e_ asn (k:=on_ (qn_ (ws_ (wr_ (e_ mv (k:=e_ mv (k:=?_)))))))
    refine e_ (evq (ev_shlM 18446744073709551616 rfl rfl rfl rfl x0 4 rfl rfl) (congrArg (fun n : Nat => Value.int .u64 (n : Int)) hy0.symm)) (k:=?_)
    refine e_ asn (k:=on_ (qn_ (wr_ (e_ mv (k:=e_ mv (k:=?_))))))
    refine e_ (evq (ev_shlM 18446744073709551616 rfl rfl rfl rfl 1000000000000000000 4 rfl rfl) (show Value.int .u64 ((1000000000000000000 * 2 ^ 4 % 18446744073709551616 : Nat) : Int) = .int .u64 16000000000000000000 from rfl)) (k:=?_)
    refine e_ asn (k:=on_ (qn_ (ws_ (wr_ (e_ mv (k:=e_ asn (k:=on_ (qn_ (ws_ (wr_ (e_ mv (k:=e_ mv (k:=?_)))))))))))))
    refine cp_ (vs:=[_,_]) rfl (tMul (x := 2820903858849102350) (y := y1) (by decide) (by omega)) (k:=e_ mv (k:=e_ exr (k:=e_ exr (k:=e_ asn (k:=e_ asn (k:=on_ (qn_ (ws_ (wr_ (e_ mv (k:=e_ mv (k:=?_))))))))))))
    refine cp_ (vs:=[_,_,_]) rfl (tAdd (x := 2820903858849102350 * y1 % B64) (y := y0) (c := 0) (by decide)) (k:=e_ mv (k:=e_ exr (k:=e_ exr (k:=e_ asn (k:=e_ asn (k:=on_ (qn_ (ws_ (wr_ (e_ mv (k:=e_ mv (k:=e_ mv (k:=?_)))))))))))))
    refine cp_ (vs:=[_,_,_]) rfl (tAdd (x := 2820903858849102350 * y1 / B64) (y := y1) (c := (2820903858849102350 * y1 % B64 + y0 + 0) / B64) (by simp only [B64]; omega)) (k:=?_)
    rw [show (2820903858849102350 * y1 / B64 + y1 + (2820903858849102350 * y1 % B64 + y0 + 0) / B64) % B64 = T from (hi_lo (2820903858849102350 * y1) y1 y0 hyb (by rw [hT] at l1; exact l1)).trans hT.symm]
    refine e_ mv (k:=e_ exr (k:=e_ exr (k:=e_ asn (k:=on_ (qn_ (ws_ (wr_ (e_ mv (k:=e_ asn (k:=on_ (qn_ (ws_ (wr_ (?_))))))))))))))
    refine e_ mv (k:=e_ mv (k:=?_))
    refine cp_ (vs:=[_,_]) rfl (tMul (x := 16000000000000000000) (y := T) (by decide) l1) (k:=e_ mv (k:=e_ exr (k:=e_ exr (k:=e_ asn (k:=e_ asn (k:=on_ (qn_ (ws_ (wr_ (e_ mv (k:=e_ mv (k:=?_))))))))))))
    refine cp_ (vs:=[_,_,_]) rfl (tSub (x := y0) (y := 16000000000000000000 * T % B64) (c := 0) (by decide)) (k:=e_ mv (k:=e_ exr (k:=e_ exr (k:=e_ asn (k:=e_ asn (k:=on_ (qn_ (ws_ (wr_ (e_ mv (k:=e_ mv (k:=e_ mv (k:=?_)))))))))))))
    refine cp_ (vs:=[_,_,_]) rfl (tSub (x := y1) (y := 16000000000000000000 * T / B64) (c := if y0 < 16000000000000000000 * T % B64 + 0 then 1 else 0) (by split <;> decide)) (k:=?_)
    obtain ⟨Rm, hRm⟩ : ∃ Rm, Rm = y1 * B64 + y0 - 16000000000000000000 * T := ⟨_, rfl⟩
    have hb0 : (y0 + B64 - 16000000000000000000 * T % B64 - 0) % B64 = Rm % B64 := by rw [hRm]; exact sub_lo y1 y0 _ hyb l2
    have hb1 : (y1 + B64 - 16000000000000000000 * T / B64 - (if y0 < 16000000000000000000 * T % B64 + 0 then 1 else 0)) % B64 = Rm / B64 := by rw [hRm]; exact sub_hi y1 y0 _ hyb (by omega) l2
    rw [hb0, hb1]
    have hRl : Rm < B64 + 16000000000000000000 := by rw [hRm]; exact l3
    have hRX : Rm + 16000000000000000000 * T = y1 * B64 + y0 := by rw [hRm]; simp only [B64] at *; omega
    simp only [B64] at hRl hRX hX hb0 hb1 ⊢
    refine e_ mv (k:=e_ exr (k:=e_ exr (k:=e_ asn (k:=e_ asn (k:=on_ (qn_ (w_joinE0 (Nat × Nat) (fun y => y.2 < 18446744073709551616 ∧ y.1 < 18446744073709551616 ∧ y.1 * 16000000000000000000 + y.2 = y1 * 18446744073709551616 + y0) (fun y => [(16, .int .u64 (y.1 : Int)), (19, .int .u64 (y.2 : Int))]) [16, 19, 81, 82, 83, 84, 85, 86, 87] ?_ ?_)))))))
    · refine ws_ (wr_ (e_ mv (k:=e_ ine (k:=on_ (qn_ (wi_ (k:=fun h2=>?_) (m:=fun h2=>?_)))))))
      · have hR1 : Rm / 18446744073709551616 = 1 := by have h9 := h2; omega
        refine ws_ (wr_ (e_ mv (k:=?_)))
        refine e_ (ev_addL 18446744073709551616 rfl rfl rfl rfl T 1 rfl rfl (by simp only [B64] at *; omega)) (k:=?_)
        refine e_ asn (k:=on_ (qn_ (wr_ (e_ mv (k:=e_ mv (k:=?_))))))
        refine e_ (evq (ev_subW rfl rfl (Rm % 18446744073709551616) 16000000000000000000 rfl rfl (by decide)) (congrArg (fun n : Nat => Value.int .u64 (n : Int)) (show _ = Rm - 16000000000000000000 by omega))) (k:=?_)
        refine e_ asn (k:=on_ (jnE (⟨T + 1, Rm - 16000000000000000000⟩) (q:=?_)))
        dsimp only
        have hq1 : (T + 1) * 16000000000000000000 = 16000000000000000000 * T + 16000000000000000000 := by rw [Nat.add_mul, Nat.mul_comm T, Nat.one_mul]
        exact ⟨by omega, by omega, by rw [hq1]; omega⟩
      have hR1 : Rm / 18446744073709551616 = 0 := by have h9 := h2; omega
      rw [show Rm % 18446744073709551616 = Rm by omega]
      refine wk_ (jnE (⟨T, Rm⟩) (q:=?_))
      dsimp only
      have hq1 : T * 16000000000000000000 = 16000000000000000000 * T := Nat.mul_comm _ _
      exact ⟨by omega, l1, by rw [hq1]; omega⟩
    rintro ⟨q, r⟩ ⟨hr9, hq9, hqr⟩
    try dsimp only [List.cons_append, List.nil_append] at *
    refine ws_ (ws_ (wr_ (e_ mv (k:=e_ mv (k:=e_ ige (k:=on_ (qn_ (wi_ (k:=fun h3=>?_) (m:=fun h3=>?_)))))))))
    · have hge : 16000000000000000000 ≤ r := by have h9 := h3; omega
      refine ws_ (wr_ (e_ mv (k:=?_)))
      refine e_ (ev_addL 18446744073709551616 rfl rfl rfl rfl q 1 rfl rfl (by omega)) (k:=?_)
      refine e_ asn (k:=on_ (qn_ (wr_ (e_ mv (k:=e_ mv (k:=?_))))))
      refine e_ (ev_subL 18446744073709551616 rfl rfl rfl rfl r 16000000000000000000 rfl rfl hge (by omega)) (k:=?_)
      refine e_ asn (k:=on_ (qn_ (ws_ (wr_ (e_ mv (k:=e_ mv (k:=e_ mv (k:=?_))))))))
      refine e_ (ev_shru rfl rfl _ 4 rfl rfl (by decide)) (k:=?_)
      refine e_ asn (k:=e_ asn (k:=on_ (qn_ (wt_ (rt_ Tryz.results151 (k:=?_))))))
      exact ⟨_, hsb, by rw [show r - 16000000000000000000 = (y1 * 18446744073709551616 + y0) % 16000000000000000000 by omega, show q + 1 = (x1 * 18446744073709551616 + x0) / 1000000000000000000 by omega, show (y1 * 18446744073709551616 + y0) % 16000000000000000000 / 2 ^ 4 = (x1 * 18446744073709551616 + x0) % 1000000000000000000 by omega]; rfl, rfl⟩
    have hlt : r < 16000000000000000000 := by have h9 := h3; omega
    refine wk_ (qn_ (ws_ (wr_ (e_ mv (k:=e_ mv (k:=e_ mv (k:=?_)))))))
    refine e_ (ev_shru rfl rfl _ 4 rfl rfl (by decide)) (k:=?_)
    refine e_ asn (k:=e_ asn (k:=on_ (qn_ (wt_ (rt_ Tryz.results151 (k:=?_))))))
    exact ⟨_, hsb, by rw [show q = (x1 * 18446744073709551616 + x0) / 1000000000000000000 by omega, show r / 2 ^ 4 = (x1 * 18446744073709551616 + x0) % 1000000000000000000 by omega]; rfl, rfl⟩
  exact absurd h1 (by decide) -- DONE
end Go.Sx
