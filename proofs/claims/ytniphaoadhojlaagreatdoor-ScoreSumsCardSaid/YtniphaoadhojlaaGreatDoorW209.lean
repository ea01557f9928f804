import Derived.Test.YtniphaoadhojlaaGreatDoorFx
import Derived.Test.YtniphaoadhojlaaGreatDoorSxP
import Derived.Test.YtniphaoadhojlaaGreatDoorW208
set_option linter.all false
namespace Go.Sx
open Go Go.Proofs Tryz
set_option maxRecDepth 100000

theorem tLZ64 {G : Base} {H : Heap} {x : Nat} (hx : x < 18446744073709551616) : SC G Tryz.prog 191 [.int .u64 (x : Int)] H (fun v H' => v = .int .i64 (64 - ((bitLen x : Nat) : Int)) ∧ H' = H) := by
  have hb9 : bitLen x ≤ 64 := by
    rcases Nat.eq_zero_or_pos x with h | h
    · rw [h]; decide
    · have := bitLen_le (n := x) (by omega)
      have h7 : 2 ^ (bitLen x - 1) < 2 ^ 64 := Nat.lt_of_le_of_lt this hx
      have := (Nat.pow_lt_pow_iff_right (by decide : 1 < 2)).1 h7
      omega
  refine SC.out (sc_walk Tryz.func191 rfl Tryz.ntmps191 (by kernel_rfl) (Nat.le_of_ble_eq_true rfl) ?_)
  refine ws_ (wr_ (e_ asn (k:=on_ (qn_ (ws_ (wr_ (e_ mv (k:=?_))))))))
  refine cp_ (vs:=[_]) rfl (tLen64 hx) (k:=e_ isb (k:=e_ asn (k:=on_ (qn_ (wt_ (rt_ Tryz.results191 (k:=?_)))))))
  exact ⟨_, hsb, rfl, rfl⟩
theorem tLZ {G : Base} {H : Heap} {x : Nat} (hx : x < 18446744073709551616) : SC G Tryz.prog 148 [.int .u64 (x : Int)] H (fun v H' => v = .int .i64 (64 - ((bitLen x : Nat) : Int)) ∧ H' = H) := by
  have hb9 : bitLen x ≤ 64 := by
    rcases Nat.eq_zero_or_pos x with h | h
    · rw [h]; decide
    · have := bitLen_le (n := x) (by omega)
      have h7 : 2 ^ (bitLen x - 1) < 2 ^ 64 := Nat.lt_of_le_of_lt this hx
      have := (Nat.pow_lt_pow_iff_right (by decide : 1 < 2)).1 h7
      omega
  refine SC.out (sc_walk Tryz.func148 rfl Tryz.ntmps148 (by kernel_rfl) (Nat.le_of_ble_eq_true rfl) ?_)
  refine ws_ (wr_ (e_ asn (k:=on_ (qn_ (ws_ (wr_ (e_ mv (k:=?_))))))))
  refine cp_ (vs:=[_]) rfl (tLen hx) (k:=e_ isb (k:=e_ asn (k:=on_ (qn_ (wt_ (rt_ Tryz.results148 (k:=?_)))))))
  exact ⟨_, hsb, rfl, rfl⟩
theorem tNlz {G : Base} {H : Heap} {x n : Nat} (hx : x < 18446744073709551616) (hn : bitLen x + n = 64) : SC G Tryz.prog 114 [.int .u64 (x : Int)] H (fun v H' => v = .int .u64 (n : Int) ∧ H' = H) := by
  refine SC.out (sc_walk Tryz.func114 rfl Tryz.ntmps114 (by kernel_rfl) (Nat.le_of_ble_eq_true rfl) ?_)
  refine ws_ (wr_ (e_ asn (k:=on_ (qn_ (ws_ (wr_ (e_ mv (k:=?_))))))))
  refine cp_ (vs:=[_]) rfl (tLZ hx) (k:=?_)
  refine e_ (evq (ev_convL 18446744073709551616 rfl rfl rfl n (by omega) (by omega)) rfl) (k:=?_)
  refine e_ asn (k:=on_ (qn_ (wt_ (rt_ Tryz.results114 (k:=?_)))))
  exact ⟨_, hsb, rfl, rfl⟩
theorem bl_16e18 : bitLen 16000000000000000000 = 64 := bitLen_is (k := 63) (by decide) (by decide)
theorem bl_1e18 : bitLen 1000000000000000000 = 60 := bitLen_is (k := 59) (by decide) (by decide)
theorem tDiv64a {G : Base} {H : Heap} {lo y0 : Nat} (hlo : lo < 18446744073709551616) (hy0 : 0 < y0) (hy : y0 < 18446744073709551616) : SC G Tryz.prog 177 [.int .u64 0, .int .u64 (lo : Int), .int .u64 (y0 : Int)] H (fun v H' => v = .tuple #[.int .u64 ((lo / y0 : Nat) : Int), .int .u64 ((lo % y0 : Nat) : Int)] ∧ H' = H) := by
  refine SC.out (sc_walk Tryz.func177 rfl Tryz.ntmps177 (by kernel_rfl) (Nat.le_of_ble_eq_true rfl) ?_)
  refine ws_ (wr_ (e_ asn (k:=e_ asn (k:=on_ (qn_ (ws_ (ws_ (wr_ (e_ mv (k:=e_ ieq (k:=on_ (qn_ (wi_ (k:=fun h1=>?_) (m:=fun h1=>?_))))))))))))))
  · exfalso; have h9 := h1; omega -- DONE
  refine wk_ (qn_ (ws_ (ws_ (wr_ (e_ mv (k:=e_ mv (k:=e_ ile (k:=on_ (qn_ (wi_ (k:=fun h2=>?_) (m:=fun h2=>?_)))))))))))
  · exfalso; have h9 := h2; omega -- DONE
  refine wk_ (qn_ (ws_ (ws_ (wr_ (e_ mv (k:=e_ ieq (k:=on_ (qn_ (wi_ (k:=fun h3=>?_) (m:=fun h3=>?_))))))))))
  · refine ws_ (?_)
    refine w_still Tryz_mixed (as_ 0 (q:=mv) (k:=as_ 1 (q:=mv) (k:=?_)))
    refine an_first 2 rfl rfl (by kernel_rfl) rfl (qv_at (ev_quo rfl rfl lo y0 rfl rfl (by omega) (by show _ ≤ (18446744073709551615 : Int); omega))) (?_)
    refine as_ 3 (q:=mv) (k:=as_ 4 (q:=mv) (k:=?_))
    refine an_first 5 rfl rfl (by kernel_rfl) rfl (qv_at (ev_rem rfl rfl lo y0 rfl rfl (by omega))) (?_)
    refine as_ 6 (q:=asn) (k:=as_ 7 (q:=asn) (k:=az_ (k:=qn_ (wt_ (qr_ (rt_ Tryz.results177 (k:=?_)))))))
    exact ⟨_, hsb, rfl, rfl⟩
  exact absurd trivial h3 -- DONE
theorem tDiv64c {G : Base} {H : Heap} : SC G Tryz.prog 177 [.int .u64 2446744073709551615, .int .u64 18446744073709551615, .int .u64 16000000000000000000] H (fun v H' => v = .tuple #[.int .u64 2820903858849102350, .int .u64 7374607431768211455] ∧ H' = H) := by
  refine SC.out (sc_walk Tryz.func177 rfl Tryz.ntmps177 (by kernel_rfl) (Nat.le_of_ble_eq_true rfl) ?_)
  refine ws_ (wr_ (e_ asn (k:=e_ asn (k:=on_ (qn_ (ws_ (ws_ (wr_ (e_ mv (k:=e_ ieq (k:=on_ (qn_ (wi_ (k:=fun h1=>?_) (m:=fun h1=>?_))))))))))))))
  · exact absurd h1 (by decide) -- DONE
  refine wk_ (qn_ (ws_ (ws_ (wr_ (e_ mv (k:=e_ mv (k:=e_ ile (k:=on_ (qn_ (wi_ (k:=fun h2=>?_) (m:=fun h2=>?_)))))))))))
  · exact absurd h2 (by decide) -- DONE
  refine wk_ (qn_ (ws_ (ws_ (wr_ (e_ mv (k:=e_ ieq (k:=on_ (qn_ (wi_ (k:=fun h3=>?_) (m:=fun h3=>?_))))))))))
  · exact absurd h3 (by decide) -- DONE
  refine wk_ (qn_ (ws_ (wr_ (e_ mv (k:=?_)))))
  refine cp_ (vs:=[_]) rfl (tLZ64 (x := 16000000000000000000) (by decide)) (k:=?_)
  rw [bl_16e18]
  refine e_ (evq (ev_convL 18446744073709551616 rfl rfl rfl 0 rfl (by decide)) (show Value.int .u64 ((0 : Nat) : Int) = .int .u64 0 from rfl)) (k:=?_)
  refine e_ asn (k:=on_ (qn_ (ws_ (wr_ (e_ mv (k:=e_ mv (k:=?_)))))))
  refine e_ (evq (ev_shlM 18446744073709551616 rfl rfl rfl rfl 16000000000000000000 0 rfl rfl) (show Value.int .u64 ((16000000000000000000 * 2 ^ 0 % 18446744073709551616 : Nat) : Int) = .int .u64 16000000000000000000 from rfl)) (k:=?_)
  refine e_ asn (k:=on_ (qn_ (ws_ (wr_ (e_ mv (k:=?_))))))
  refine e_ (evq (ev_shru rfl rfl 16000000000000000000 32 rfl rfl (by decide)) (show Value.int .u64 ((16000000000000000000 / 2 ^ 32 : Nat) : Int) = .int .u64 3725290298 from rfl)) (k:=?_)
  refine e_ asn (k:=on_ (qn_ (ws_ (wr_ (e_ mv (k:=?_))))))
  refine e_ (evq (ev_andM 18446744073709551616 rfl rfl rfl rfl 16000000000000000000 4294967295 rfl rfl (by decide) (by decide)) (show Value.int .u64 ((16000000000000000000 &&& 4294967295 : Nat) : Int) = .int .u64 1983905792 from rfl)) (k:=?_)
  refine e_ asn (k:=on_ (qn_ (ws_ (wr_ (e_ mv (k:=e_ mv (k:=?_)))))))
  refine e_ (evq (ev_shlM 18446744073709551616 rfl rfl rfl rfl 2446744073709551615 0 rfl rfl) (show Value.int .u64 ((2446744073709551615 * 2 ^ 0 % 18446744073709551616 : Nat) : Int) = .int .u64 2446744073709551615 from rfl)) (k:=?_)
  refine e_ mv (k:=e_ mv (k:=?_))
  refine e_ (evq (ev_subL 18446744073709551616 rfl rfl rfl rfl 64 0 rfl rfl (by decide) (by decide)) (show Value.int .u64 ((64 - 0 : Nat) : Int) = .int .u64 64 from rfl)) (k:=?_)
  refine e_ (evq (ev_shru rfl rfl 18446744073709551615 64 rfl rfl (by decide)) (show Value.int .u64 ((18446744073709551615 / 2 ^ 64 : Nat) : Int) = .int .u64 0 from rfl)) (k:=?_)
  refine e_ (evq (ev_orM 18446744073709551616 rfl rfl rfl rfl 2446744073709551615 0 rfl rfl (by decide) (by decide)) (show Value.int .u64 ((2446744073709551615 ||| 0 : Nat) : Int) = .int .u64 2446744073709551615 from rfl)) (k:=?_)
  refine e_ asn (k:=on_ (qn_ (ws_ (wr_ (e_ mv (k:=e_ mv (k:=?_)))))))
  refine e_ (evq (ev_shlM 18446744073709551616 rfl rfl rfl rfl 18446744073709551615 0 rfl rfl) (show Value.int .u64 ((18446744073709551615 * 2 ^ 0 % 18446744073709551616 : Nat) : Int) = .int .u64 18446744073709551615 from rfl)) (k:=?_)
  refine e_ asn (k:=on_ (qn_ (ws_ (wr_ (e_ mv (k:=?_))))))
  refine e_ (evq (ev_shru rfl rfl 18446744073709551615 32 rfl rfl (by decide)) (show Value.int .u64 ((18446744073709551615 / 2 ^ 32 : Nat) : Int) = .int .u64 4294967295 from rfl)) (k:=?_)
  refine e_ asn (k:=on_ (qn_ (ws_ (wr_ (e_ mv (k:=?_))))))
  refine e_ (evq (ev_andM 18446744073709551616 rfl rfl rfl rfl 18446744073709551615 4294967295 rfl rfl (by decide) (by decide)) (show Value.int .u64 ((18446744073709551615 &&& 4294967295 : Nat) : Int) = .int .u64 4294967295 from rfl)) (k:=?_)
  refine e_ asn (k:=on_ (qn_ (ws_ (wr_ (e_ mv (k:=e_ mv (k:=?_)))))))
  refine e_ (evq (ev_quo rfl rfl 2446744073709551615 3725290298 rfl rfl (by decide) (by decide)) (show Value.int .u64 ((2446744073709551615 / 3725290298 : Nat) : Int) = .int .u64 656792861 from rfl)) (k:=?_)
  refine e_ asn (k:=on_ (qn_ (ws_ (wr_ (e_ mv (k:=e_ mv (k:=e_ mv (k:=?_))))))))
  refine e_ (evq (ev_mulM 18446744073709551616 rfl rfl rfl rfl 656792861 3725290298 rfl rfl) (show Value.int .u64 ((656792861 * 3725290298 % 18446744073709551616 : Nat) : Int) = .int .u64 2446744072878962578 from rfl)) (k:=?_)
  refine e_ (evq (ev_subL 18446744073709551616 rfl rfl rfl rfl 2446744073709551615 2446744072878962578 rfl rfl (by decide) (by decide)) (show Value.int .u64 ((2446744073709551615 - 2446744072878962578 : Nat) : Int) = .int .u64 830589037 from rfl)) (k:=?_)
  refine e_ asn (k:=on_ (qn_ (ws_ (wb_ (wl2_ (Nat) (fun y => True) (fun y => [(15, .int .u64 656792861), (16, .int .u64 830589037)]) [(2, _), (8, _), (9, _), (10, _), (11, _), (13, _), (14, _)] (fun y => []) _ (fun y => 0) (0) (h0:=?_) (k:=?_))))))
  · try dsimp only
    all_goals trivial
  rintro i -
  try dsimp only [List.cons_append, List.nil_append] at *
  refine ws_ (ws_ (wr_ (e_ mv (k:=e_ ige (k:=e_ mv (k:=sg_or 9 78 (k:=fun h4=>eg_ mv (k:=eg_ mv (k:=eg_ (evq (ev_mulM 18446744073709551616 rfl rfl rfl rfl 656792861 1983905792 rfl rfl) (show Value.int .u64 ((656792861 * 1983905792 % 18446744073709551616 : Nat) : Int) = .int .u64 1303015161082150912 from rfl)) (k:=eg_ mv (k:=eg_ (evq (ev_mulM 18446744073709551616 rfl rfl rfl rfl 4294967296 830589037 rfl rfl) (show Value.int .u64 ((4294967296 * 830589037 % 18446744073709551616 : Nat) : Int) = .int .u64 3567352750331133952 from rfl)) (k:=eg_ mv (k:=eg_ (evq (ev_addM 18446744073709551616 rfl rfl rfl rfl 3567352750331133952 4294967295 rfl rfl) (show Value.int .u64 (((3567352750331133952 + 4294967295) % 18446744073709551616 : Nat) : Int) = .int .u64 3567352754626101247 from rfl)) (k:=eg_ igt (k:=e_ pkf (k:=on_ (edq))))))))))) (q:=on_ (qn_ (wi_ (k:=fun h5=>?_) (m:=fun h5=>?_))))))))))
  · exfalso; rcases h5 with h9 | h9 <;> exact absurd h9 (by decide) -- DONE
  refine we_ (qe_ (le_ (bh_ (qn_ (ws_ (wr_ (e_ mv (k:=?_))))))))
  refine e_ (evq (ev_mulM 18446744073709551616 rfl rfl rfl rfl 2446744073709551615 4294967296 rfl rfl) (show Value.int .u64 ((2446744073709551615 * 4294967296 % 18446744073709551616 : Nat) : Int) = .int .u64 9925933574429605888 from rfl)) (k:=?_)
  refine e_ mv (k:=?_)
  refine e_ (evq (ev_addM 18446744073709551616 rfl rfl rfl rfl 9925933574429605888 4294967295 rfl rfl) (show Value.int .u64 (((9925933574429605888 + 4294967295) % 18446744073709551616 : Nat) : Int) = .int .u64 9925933578724573183 from rfl)) (k:=?_)
  refine e_ mv (k:=e_ mv (k:=?_))
  refine e_ (evq (ev_mulM 18446744073709551616 rfl rfl rfl rfl 656792861 16000000000000000000 rfl rfl) (show Value.int .u64 ((656792861 * 16000000000000000000 % 18446744073709551616 : Nat) : Int) = .int .u64 7661595985180622848 from rfl)) (k:=?_)
  refine e_ (evq (ev_subW rfl rfl 9925933578724573183 7661595985180622848 rfl rfl (by decide)) (show Value.int .u64 (((9925933578724573183 + 18446744073709551616 - 7661595985180622848) % 18446744073709551616 : Nat) : Int) = .int .u64 2264337593543950335 from rfl)) (k:=?_)
  refine e_ asn (k:=on_ (qn_ (ws_ (wr_ (e_ mv (k:=e_ mv (k:=?_)))))))
  refine e_ (evq (ev_quo rfl rfl 2264337593543950335 3725290298 rfl rfl (by decide) (by decide)) (show Value.int .u64 ((2264337593543950335 / 3725290298 : Nat) : Int) = .int .u64 607828494 from rfl)) (k:=?_)
  refine e_ asn (k:=on_ (qn_ (ws_ (wr_ (e_ mv (k:=e_ mv (k:=e_ mv (k:=?_))))))))
  refine e_ (evq (ev_mulM 18446744073709551616 rfl rfl rfl rfl 607828494 3725290298 rfl rfl) (show Value.int .u64 ((607828494 * 3725290298 % 18446744073709551616 : Nat) : Int) = .int .u64 2264337591546151212 from rfl)) (k:=?_)
  refine e_ (evq (ev_subL 18446744073709551616 rfl rfl rfl rfl 2264337593543950335 2264337591546151212 rfl rfl (by decide) (by decide)) (show Value.int .u64 ((2264337593543950335 - 2264337591546151212 : Nat) : Int) = .int .u64 1997799123 from rfl)) (k:=?_)
  refine e_ asn (k:=on_ (qn_ (ws_ (wb_ (wl2_ (Nat) (fun y => True) (fun y => [(16, .int .u64 1997799123), (18, .int .u64 607828494)]) [(2, _), (8, _), (9, _), (10, _), (14, _), (15, _), (17, _)] (fun y => []) _ (fun y => 0) (0) (h0:=?_) (k:=?_))))))
  · try dsimp only
    all_goals trivial
  rintro i -
  try dsimp only [List.cons_append, List.nil_append] at *
  refine ws_ (ws_ (wr_ (e_ mv (k:=e_ ige (k:=e_ mv (k:=sg_or 9 113 (k:=fun h6=>eg_ mv (k:=eg_ mv (k:=eg_ (evq (ev_mulM 18446744073709551616 rfl rfl rfl rfl 607828494 1983905792 rfl rfl) (show Value.int .u64 ((607828494 * 1983905792 % 18446744073709551616 : Nat) : Int) = .int .u64 1205874469789237248 from rfl)) (k:=eg_ mv (k:=eg_ (evq (ev_mulM 18446744073709551616 rfl rfl rfl rfl 4294967296 1997799123 rfl rfl) (show Value.int .u64 ((4294967296 * 1997799123 % 18446744073709551616 : Nat) : Int) = .int .u64 8580481897262481408 from rfl)) (k:=eg_ mv (k:=eg_ (evq (ev_addM 18446744073709551616 rfl rfl rfl rfl 8580481897262481408 4294967295 rfl rfl) (show Value.int .u64 (((8580481897262481408 + 4294967295) % 18446744073709551616 : Nat) : Int) = .int .u64 8580481901557448703 from rfl)) (k:=eg_ igt (k:=e_ pkf (k:=on_ (edq))))))))))) (q:=on_ (qn_ (wi_ (k:=fun h7=>?_) (m:=fun h7=>?_))))))))))
  · exfalso; rcases h7 with h9 | h9 <;> exact absurd h9 (by decide) -- DONE
  refine we_ (qe_ (le_ (bh_ (qn_ (ws_ (wr_ (e_ mv (k:=?_))))))))
  refine e_ (evq (ev_mulM 18446744073709551616 rfl rfl rfl rfl 656792861 4294967296 rfl rfl) (show Value.int .u64 ((656792861 * 4294967296 % 18446744073709551616 : Nat) : Int) = .int .u64 2820903858241273856 from rfl)) (k:=?_)
  refine e_ mv (k:=?_)
  refine e_ (evq (ev_addM 18446744073709551616 rfl rfl rfl rfl 2820903858241273856 607828494 rfl rfl) (show Value.int .u64 (((2820903858241273856 + 607828494) % 18446744073709551616 : Nat) : Int) = .int .u64 2820903858849102350 from rfl)) (k:=?_)
  refine e_ mv (k:=?_)
  refine e_ (evq (ev_mulM 18446744073709551616 rfl rfl rfl rfl 2264337593543950335 4294967296 rfl rfl) (show Value.int .u64 ((2264337593543950335 * 4294967296 % 18446744073709551616 : Nat) : Int) = .int .u64 6539226654646992896 from rfl)) (k:=?_)
  refine e_ mv (k:=?_)
  refine e_ (evq (ev_addM 18446744073709551616 rfl rfl rfl rfl 6539226654646992896 4294967295 rfl rfl) (show Value.int .u64 (((6539226654646992896 + 4294967295) % 18446744073709551616 : Nat) : Int) = .int .u64 6539226658941960191 from rfl)) (k:=?_)
  refine e_ mv (k:=e_ mv (k:=?_))
  refine e_ (evq (ev_mulM 18446744073709551616 rfl rfl rfl rfl 607828494 16000000000000000000 rfl rfl) (show Value.int .u64 ((607828494 * 16000000000000000000 % 18446744073709551616 : Nat) : Int) = .int .u64 17611363300883300352 from rfl)) (k:=?_)
  refine e_ (evq (ev_subW rfl rfl 6539226658941960191 17611363300883300352 rfl rfl (by decide)) (show Value.int .u64 (((6539226658941960191 + 18446744073709551616 - 17611363300883300352) % 18446744073709551616 : Nat) : Int) = .int .u64 7374607431768211455 from rfl)) (k:=?_)
  refine e_ mv (k:=?_)
  refine e_ (evq (ev_shru rfl rfl 7374607431768211455 0 rfl rfl (by decide)) (show Value.int .u64 ((7374607431768211455 / 2 ^ 0 : Nat) : Int) = .int .u64 7374607431768211455 from rfl)) (k:=?_)
  refine e_ asn (k:=e_ asn (k:=on_ (qn_ (wt_ (rt_ Tryz.results177 (k:=?_))))))
  exact ⟨_, hsb, rfl, rfl⟩
theorem tDivA {G : Base} {H : Heap} {lo y0 : Nat} (hlo : lo < 18446744073709551616) (hy0 : 0 < y0) (hy : y0 < 18446744073709551616) : SC G Tryz.prog 149 [.int .u64 0, .int .u64 (lo : Int), .int .u64 (y0 : Int)] H (fun v H' => v = .tuple #[.int .u64 ((lo / y0 : Nat) : Int), .int .u64 ((lo % y0 : Nat) : Int)] ∧ H' = H) := by
  refine SC.out (sc_walk Tryz.func149 rfl Tryz.ntmps149 (by kernel_rfl) (Nat.le_of_ble_eq_true rfl) ?_)
  refine ws_ (wr_ (e_ asn (k:=e_ asn (k:=on_ (qn_ (ws_ (iff_ (k:=wk_ (qn_ (ws_ (wr_ (e_ mv (k:=e_ mv (k:=?_))))))))))))))
  refine e_ mv (k:=?_)
  refine cp_ (vs:=[_,_,_]) rfl (tDiv64a hlo hy0 hy) (k:=e_ mv (k:=e_ exr (k:=e_ exr (k:=e_ asn (k:=e_ asn (k:=on_ (qn_ (ws_ (wr_ (e_ mv (k:=e_ mv (k:=e_ asn (k:=e_ asn (k:=?_))))))))))))))
  refine on_ (qn_ (wt_ (rt_ Tryz.results149 (k:=?_))))
  exact ⟨_, hsb, rfl, rfl⟩
theorem tDivC {G : Base} {H : Heap} : SC G Tryz.prog 149 [.int .u64 2446744073709551615, .int .u64 18446744073709551615, .int .u64 16000000000000000000] H (fun v H' => v = .tuple #[.int .u64 2820903858849102350, .int .u64 7374607431768211455] ∧ H' = H) := by
  refine SC.out (sc_walk Tryz.func149 rfl Tryz.ntmps149 (by kernel_rfl) (Nat.le_of_ble_eq_true rfl) ?_)
  refine ws_ (wr_ (e_ asn (k:=e_ asn (k:=on_ (qn_ (ws_ (iff_ (k:=wk_ (qn_ (ws_ (wr_ (e_ mv (k:=e_ mv (k:=?_))))))))))))))
  refine e_ mv (k:=?_)
  refine cp_ (vs:=[_,_,_]) rfl (tDiv64c) (k:=e_ mv (k:=e_ exr (k:=e_ exr (k:=e_ asn (k:=e_ asn (k:=on_ (qn_ (ws_ (wr_ (e_ mv (k:=e_ mv (k:=e_ asn (k:=e_ asn (k:=?_))))))))))))))
  refine on_ (qn_ (wt_ (rt_ Tryz.results149 (k:=?_))))
  exact ⟨_, hsb, rfl, rfl⟩
theorem tRecip {G : Base} {H : Heap} : SC G Tryz.prog 150 [.int .u64 1000000000000000000] H (fun v H' => v = .int .u64 2820903858849102350 ∧ H' = H) := by
  refine SC.out (sc_walk Tryz.func150 rfl Tryz.ntmps150 (by kernel_rfl) (Nat.le_of_ble_eq_true rfl) ?_)
  refine ws_ (wr_ (e_ asn (k:=on_ (qn_ (ws_ (wr_ (e_ mv (k:=e_ mv (k:=?_)))))))))
  refine cp_ (vs:=[_]) rfl (tNlz (x := 1000000000000000000) (n := 4) (by decide) (by rw [bl_1e18])) (k:=?_)
  refine e_ (evq (ev_shlM 18446744073709551616 rfl rfl rfl rfl 1000000000000000000 4 rfl rfl) (show Value.int .u64 ((1000000000000000000 * 2 ^ 4 % 18446744073709551616 : Nat) : Int) = .int .u64 16000000000000000000 from rfl)) (k:=?_)
  refine e_ asn (k:=on_ (qn_ (ws_ (wr_ (e_ mv (k:=?_))))))
  refine e_ (evq (ev_notM 18446744073709551616 rfl rfl rfl 16000000000000000000 rfl (by decide)) (show Value.int .u64 (((18446744073709551616 - 1) ^^^ 16000000000000000000 : Nat) : Int) = .int .u64 2446744073709551615 from rfl)) (k:=?_)
  refine e_ asn (k:=on_ (qn_ (ws_ (wr_ (e_ asn (k:=on_ (qn_ (ws_ (wr_ (e_ mv (k:=e_ mv (k:=e_ mv (k:=?_)))))))))))))
  refine cp_ (vs:=[_,_,_]) rfl (tDivC) (k:=e_ mv (k:=e_ exr (k:=e_ exr (k:=e_ asn (k:=e_ asn (k:=on_ (qn_ (ws_ (wr_ (e_ mv (k:=e_ asn (k:=on_ (qn_ (?_))))))))))))))
  refine wt_ (rt_ Tryz.results150 (k:=?_))
  exact ⟨_, hsb, rfl, rfl⟩
end Go.Sx
