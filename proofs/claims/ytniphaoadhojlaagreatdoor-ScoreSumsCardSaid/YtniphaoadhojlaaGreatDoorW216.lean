import Derived.Test.YtniphaoadhojlaaGreatDoorFx
import Derived.Test.YtniphaoadhojlaaGreatDoorSxP
import Derived.Test.YtniphaoadhojlaaGreatDoorSxV
import Derived.Test.YtniphaoadhojlaaGreatDoorP50
import Derived.Test.YtniphaoadhojlaaGreatDoorW215
set_option linter.all false
namespace Go.Sx
open Go Go.Proofs Tryz
set_option maxRecDepth 100000

/-! ## package score: what fixed calls -/
theorem tCounted {G : Base} {H : Heap} : SC G Tryz.prog 28 [.int .i64 1] H (fun v H' => v = .int .u64 1 ∧ H' = H) := by
  refine SC.out (sc_walk Tryz.func28 rfl Tryz.ntmps28 (by kernel_rfl) (Nat.le_of_ble_eq_true rfl) ?_)
  refine ws_ (wr_ (e_ asn (k:=on_ (qn_ (ws_ (wr_ (e_ mv (k:=?_))))))))
  refine e_ (evq (ev_max rfl rfl) (show Value.int .i64 (max 1 0) = .int .i64 1 from rfl)) (k:=?_)
  refine e_ (evq (ev_min rfl rfl) (show Value.int .i64 (min 1 1048576) = .int .i64 1 from rfl)) (k:=?_)
  refine e_ (evq (ev_convL 18446744073709551616 rfl rfl rfl 1 rfl (by decide)) (show Value.int .u64 ((1 : Nat) : Int) = .int .u64 1 from rfl)) (k:=?_)
  refine e_ asn (k:=on_ (qn_ (wt_ (rt_ Tryz.results28 (k:=?_)))))
  exact ⟨_, hsb, rfl, rfl⟩
theorem tSat {G : Base} {H : Heap} : SC G Tryz.prog 11 [.int .i64 1, .int .i64 1, .int .i64 1] H (fun v H' => v = .int .u64 465 ∧ H' = H) := by
  refine SC.out (sc_walk Tryz.func11 rfl Tryz.ntmps11 (by kernel_rfl) (Nat.le_of_ble_eq_true rfl) ?_)
  refine ws_ (wr_ (e_ asn (k:=on_ (qn_ (ws_ (wr_ (e_ mv (k:=?_))))))))
  refine cp_ (vs:=[_]) rfl (tCounted) (k:=e_ mv (k:=?_))
  refine cp_ (vs:=[_]) rfl (tCounted) (k:=e_ mv (k:=?_))
  refine cp_ (vs:=[_]) rfl (tCounted) (k:=?_)
  refine e_ (evq (ev_max rfl rfl) (show Value.int .u64 (max 1 1) = .int .u64 1 from rfl)) (k:=?_)
  refine e_ asn (k:=e_ asn (k:=e_ asn (k:=on_ (qn_ (ws_ (wr_ (e_ mv (k:=?_))))))))
  refine e_ (evq (ev_mulM 18446744073709551616 rfl rfl rfl rfl 10240 1 rfl rfl) (show Value.int .u64 ((10240 * 1 % 18446744073709551616 : Nat) : Int) = .int .u64 10240 from rfl)) (k:=?_)
  refine e_ mv (k:=?_)
  refine e_ (evq (ev_mulM 18446744073709551616 rfl rfl rfl rfl 10240 1 rfl rfl) (show Value.int .u64 ((10240 * 1 % 18446744073709551616 : Nat) : Int) = .int .u64 10240 from rfl)) (k:=?_)
  refine e_ mv (k:=?_)
  refine e_ (evq (ev_mulM 18446744073709551616 rfl rfl rfl rfl 10 1 rfl rfl) (show Value.int .u64 ((10 * 1 % 18446744073709551616 : Nat) : Int) = .int .u64 10 from rfl)) (k:=?_)
  refine e_ mv (k:=?_)
  refine e_ (evq (ev_mulM 18446744073709551616 rfl rfl rfl rfl 10 1 rfl rfl) (show Value.int .u64 ((10 * 1 % 18446744073709551616 : Nat) : Int) = .int .u64 10 from rfl)) (k:=?_)
  refine e_ mv (k:=?_)
  refine e_ (evq (ev_mulM 18446744073709551616 rfl rfl rfl rfl 3 1 rfl rfl) (show Value.int .u64 ((3 * 1 % 18446744073709551616 : Nat) : Int) = .int .u64 3 from rfl)) (k:=?_)
  refine e_ (evq (ev_addM 18446744073709551616 rfl rfl rfl rfl 10 3 rfl rfl) (show Value.int .u64 (((10 + 3) % 18446744073709551616 : Nat) : Int) = .int .u64 13 from rfl)) (k:=?_)
  refine e_ mv (k:=?_)
  refine e_ (evq (ev_mulM 18446744073709551616 rfl rfl rfl rfl 9 1 rfl rfl) (show Value.int .u64 ((9 * 1 % 18446744073709551616 : Nat) : Int) = .int .u64 9 from rfl)) (k:=?_)
  refine e_ (evq (ev_addM 18446744073709551616 rfl rfl rfl rfl 13 9 rfl rfl) (show Value.int .u64 (((13 + 9) % 18446744073709551616 : Nat) : Int) = .int .u64 22 from rfl)) (k:=?_)
  refine e_ (evq (ev_quo rfl rfl 10240 22 rfl rfl (by decide) (by decide)) (show Value.int .u64 ((10240 / 22 : Nat) : Int) = .int .u64 465 from rfl)) (k:=?_)
  refine e_ asn (k:=on_ (qn_ (wt_ (rt_ Tryz.results11 (k:=?_)))))
  exact ⟨_, hsb, rfl, rfl⟩
theorem bl10 : bitLen (10 ^ 256) = 851 := bitLen_is (k := 850) (by decide +kernel) (by decide +kernel)
theorem bl4 : bitLen (4 ^ 256) = 513 := bitLen_is (k := 512) (by decide +kernel) (by decide +kernel)
theorem bl3 : bitLen (3 ^ 256) = 406 := bitLen_is (k := 405) (by decide +kernel) (by decide +kernel)
theorem tLog10 {G : Base} {H : Heap} [hg : BigG H] : SC G Tryz.prog 9 [.int .u64 10] H (fun v' H' => v' = .int .u64 850 ∧ H' = H) :=
  (tLog (x := 10) (by decide) (by decide) (by decide)).mono fun v H' ⟨h1, h2⟩ => ⟨by rw [h1, bl10]; rfl, h2⟩
theorem tLog4 {G : Base} {H : Heap} [hg : BigG H] : SC G Tryz.prog 9 [.int .u64 4] H (fun v' H' => v' = .int .u64 512 ∧ H' = H) :=
  (tLog (x := 4) (by decide) (by decide) (by decide)).mono fun v H' ⟨h1, h2⟩ => ⟨by rw [h1, bl4]; rfl, h2⟩
theorem tLog3 {G : Base} {H : Heap} [hg : BigG H] : SC G Tryz.prog 9 [.int .u64 3] H (fun v' H' => v' = .int .u64 405 ∧ H' = H) :=
  (tLog (x := 3) (by decide) (by decide) (by decide)).mono fun v H' ⟨h1, h2⟩ => ⟨by rw [h1, bl3]; rfl, h2⟩
theorem tIdf {G : Base} {H : Heap} [hg : BigG H] : SC G Tryz.prog 10 [.int .i64 1, .int .i64 1] H (fun v' H' => v' = .int .u64 107 ∧ H' = H) := by
  refine SC.out (sc_walk Tryz.func10 rfl Tryz.ntmps10 (by kernel_rfl) (Nat.le_of_ble_eq_true rfl) ?_)
  refine ws_ (wr_ (e_ asn (k:=on_ (qn_ (ws_ (wr_ (e_ mv (k:=?_))))))))
  refine e_ (evq (ev_min rfl rfl) (show Value.int .i64 (min 1 2147483647) = .int .i64 1 from rfl)) (k:=?_)
  refine e_ asn (k:=on_ (qn_ (ws_ (wr_ (e_ mv (k:=e_ mv (k:=?_)))))))
  refine e_ (evq (ev_min rfl rfl) (show Value.int .i64 (min 1 1) = .int .i64 1 from rfl)) (k:=?_)
  refine e_ asn (k:=on_ (qn_ (ws_ (ws_ (wr_ (e_ mv (k:=e_ ilt (k:=e_ mv (k:=sg_or 3 17 (k:=fun h1=>eg_ mv (k:=eg_ ilt (k:=e_ pkf (k:=on_ (edq))))) (q:=on_ (qn_ (wi_ (k:=fun h2=>?_) (m:=fun h2=>?_)))))))))))))
  · exfalso; rcases h2 with h9 | h9 <;> exact absurd h9 (by decide) -- DONE
  refine wk_ (qn_ (ws_ (wr_ (e_ mv (k:=?_)))))
  refine e_ (evq iml (show Value.int .i64 (2 * 1) = .int .i64 2 from rfl)) (k:=?_)
  refine e_ (evq iad (show Value.int .i64 (2 + 2) = .int .i64 4 from rfl)) (k:=?_)
  refine e_ (evq (ev_convL 18446744073709551616 rfl rfl rfl 4 rfl (by decide)) (show Value.int .u64 ((4 : Nat) : Int) = .int .u64 4 from rfl)) (k:=?_)
  refine cp_ (vs:=[_]) rfl (tLog4) (k:=e_ mv (k:=?_))
  refine e_ (evq iml (show Value.int .i64 (2 * 1) = .int .i64 2 from rfl)) (k:=?_)
  refine e_ (evq iad (show Value.int .i64 (2 + 1) = .int .i64 3 from rfl)) (k:=?_)
  refine e_ (evq (ev_convL 18446744073709551616 rfl rfl rfl 3 rfl (by decide)) (show Value.int .u64 ((3 : Nat) : Int) = .int .u64 3 from rfl)) (k:=?_)
  refine cp_ (vs:=[_]) rfl (tLog3) (k:=?_)
  refine e_ (evq (ev_subL 18446744073709551616 rfl rfl rfl rfl 512 405 rfl rfl (by decide) (by decide)) (show Value.int .u64 ((512 - 405 : Nat) : Int) = .int .u64 107 from rfl)) (k:=?_)
  refine e_ (evq (ev_max rfl rfl) (show Value.int .u64 (max 107 1) = .int .u64 107 from rfl)) (k:=?_)
  refine e_ asn (k:=on_ (qn_ (wt_ (rt_ Tryz.results10 (k:=?_)))))
  exact ⟨_, hsb, rfl, rfl⟩
end Go.Sx
