import Derived.Test.YtniphaoadhojlaaGreatDoorFx
import Derived.Test.YtniphaoadhojlaaGreatDoorSxP
import Derived.Test.YtniphaoadhojlaaGreatDoorSxV
import Derived.Test.YtniphaoadhojlaaGreatDoorP50
import Derived.Test.YtniphaoadhojlaaGreatDoorW217
set_option linter.all false
namespace Go.Sx
open Go Go.Proofs Tryz
set_option maxRecDepth 100000

/-! ## strings.Cut at a byte, strconv.ParseUint of "1", concordnum.Num of ErrValue -/
theorem tIxB {G : Base} {H : Heap} {q : ByteArray} (x : Nat) : SC G Tryz.prog 85 [.string q, .int .u8 (x : Int)] H (fun v H' => v = .int .i64 (ixR q x) ∧ H' = H) := by
  refine SC.out (sc_walk Tryz.func85 rfl Tryz.ntmps85 (by kernel_rfl) (Nat.le_of_ble_eq_true rfl) ?_)
  refine ws_ (wr_ (e_ asn (k:=on_ (qn_ (ws_ (wr_ (e_ mv (k:=e_ mv (k:=?_)))))))))
  refine s_ (st_ext (vs := [_, _]) Tryz.func126 (by kernel_rfl) rfl (by kernel_rfl) (by kernel_rfl) rfl (fun w => run_ixb q x w)) (k:=?_)
  rintro _ _ ⟨rfl, rfl⟩
  refine e_ asn (k:=on_ (qn_ (wt_ (rt_ Tryz.results85 (k:=?_)))))
  exact ⟨_, hsb, rfl, rfl⟩
theorem tIx {G : Base} {H : Heap} {q : ByteArray} (hne : ¬ byts ⟨#[46]⟩ = byts q) : SC G Tryz.prog 50 [.string q, .string ⟨#[46]⟩] H (fun v H' => v = .int .i64 (ixR q 46) ∧ H' = H) := by
  refine SC.out (sc_walk Tryz.func50 rfl Tryz.ntmps50 (by kernel_rfl) (Nat.le_of_ble_eq_true rfl) ?_)
  refine ws_ (wr_ (e_ asn (k:=on_ (qn_ (ws_ (wr_ (e_ mv (k:=?_))))))))
  refine e_ (evq lnst (show Value.int .i64 (((⟨#[46]⟩ : ByteArray).size : Nat) : Int) = .int .i64 1 from rfl)) (k:=?_)
  refine e_ asn (k:=on_ (qn_ (ws_ (wb_ (ws_ (wr_ (e_ mv (k:=e_ ieq (k:=e_ mv (k:=sg_or 4 23 (k:=fun h1=>eg_ mv (k:=eg_ mv (k:=eg_ seq_ (k:=e_ pkf (k:=on_ (edq)))))) (q:=e_ asn (k:=on_ (qn_ (?_))))))))))))))
  refine wi_ (k:=fun h2=>?_) (m:=fun h2=>?_)
  · exfalso; rcases h2 with h9 | h9
    · exact absurd h9 (by decide)
    · exact absurd h9 hne -- DONE
  refine ws_ (wr_ (e_ mv (k:=e_ ieq (k:=e_ asn (k:=on_ (qn_ (wi_ (k:=fun h3=>?_) (m:=fun h3=>?_))))))))
  · refine ws_ (wr_ (e_ mv (k:=e_ mv (k:=?_))))
    refine e_ (evq (ixs (i := 0) (hlt:=by decide)) (show Value.int .u8 _ = .int .u8 ((46 : Nat) : Int) from rfl)) (k:=?_)
    refine cp_ (vs:=[_,_]) rfl (tIxB 46) (k:=e_ asn (k:=on_ (qn_ (wt_ (br_ (qr_ (rt_ Tryz.results50 (k:=?_))))))))
    exact ⟨_, hsb, rfl, rfl⟩
  exact absurd h3 (by decide) -- DONE
theorem tCut0 {G : Base} {H : Heap} {q : ByteArray} (hi : ixR q 46 = 1) (h2 : 2 ≤ q.size) (hs : q.size ≤ 100) : SC G Tryz.prog 30 [.string q, .string ⟨#[46]⟩] H (fun v H' => v = .tuple #[.string (q.extract 0 1), .string (q.extract 2 q.size), .bool true] ∧ H' = H) := by
  refine SC.out (sc_walk Tryz.func30 rfl Tryz.ntmps30 (by kernel_rfl) (Nat.le_of_ble_eq_true rfl) ?_)
  refine ws_ (wr_ (e_ asn (k:=e_ asn (k:=e_ asn (k:=on_ (qn_ (ws_ (ws_ (wr_ (e_ mv (k:=e_ mv (k:=?_))))))))))))
  refine cp_ (vs:=[_,_]) rfl ((hi ▸ tIx (by intro h; have h3 := congrArg List.length h; rw [byts_length, byts_length] at h3; have h4 : (⟨#[46]⟩ : ByteArray).size = 1 := rfl; omega))) (k:=e_ asn (k:=on_ (qn_ (ws_ (wr_ (e_ mv (k:=e_ ige (k:=on_ (qn_ (wi_ (k:=fun h1=>?_) (m:=fun h1=>?_)))))))))))
  · refine ws_ (?_)
    refine w_still Tryz_mixed (as_ 0 (q:=mv) (k:=as_ 1 (q:=mv) (k:=as_ 2 (q:=sls2 (b := 1) (h1:=by omega)) (k:=as_ 3 (q:=mv) (k:=as_ 4 (q:=mv) (k:=as_ 5 (q:=mv) (k:=?_)))))))
    refine an_first 6 rfl rfl (by kernel_rfl) rfl (qv_at (evq lnst (show Value.int .i64 (((⟨#[46]⟩ : ByteArray).size : Nat) : Int) = .int .i64 1 from rfl))) (?_)
    refine an_first 7 rfl rfl (by kernel_rfl) rfl (qv_at (evq iad (show Value.int .i64 (1 + 1) = .int .i64 ((2 : Nat) : Int) from rfl))) (?_)
    refine as_ 8 (q:=sls1) (k:=as_ 9 (q:=asn) (k:=as_ 10 (q:=asn) (k:=as_ 11 (q:=asn) (k:=az_ (k:=qn_ (wt_ (qr_ (rt_ Tryz.results30 (k:=?_)))))))))
    exact ⟨_, hsb, rfl, rfl⟩
  exact absurd h1 (by decide) -- DONE
theorem tCut {G : Base} {H : Heap} {q : ByteArray} (hi : ixR q 46 = 1) (h2 : 2 ≤ q.size) (hs : q.size ≤ 100) : SC G Tryz.prog 15 [.string q, .string ⟨#[46]⟩] H (fun v H' => v = .tuple #[.string (q.extract 0 1), .string (q.extract 2 q.size), .bool true] ∧ H' = H) := by
  refine SC.out (sc_walk Tryz.func15 rfl Tryz.ntmps15 (by kernel_rfl) (Nat.le_of_ble_eq_true rfl) ?_)
  refine ws_ (wr_ (e_ asn (k:=e_ asn (k:=e_ asn (k:=on_ (qn_ (ws_ (wr_ (e_ mv (k:=e_ mv (k:=?_)))))))))))
  refine cp_ (vs:=[_,_]) rfl (tCut0 hi h2 hs) (k:=e_ exr (k:=e_ exr (k:=e_ exr (k:=e_ asn (k:=e_ asn (k:=e_ asn (k:=on_ (qn_ (wt_ (rt_ Tryz.results15 (k:=?_)))))))))))
  exact ⟨_, hsb, rfl, rfl⟩
theorem tPU0 {G : Base} {H : Heap} : SC G Tryz.prog 31 [.string ⟨#[49]⟩, .int .i64 10, .int .i64 46] H (fun v H' => v = .tuple #[.int .u64 1, .nilIface] ∧ H' = H) := by
  refine SC.out (sc_walk Tryz.func31 rfl Tryz.ntmps31 (by kernel_rfl) (Nat.le_of_ble_eq_true rfl) ?_)
  refine ws_ (wr_ (e_ asn (k:=e_ asn (k:=on_ (qn_ (ws_ (ws_ (wr_ (e_ mv (k:=e_ seq_ (k:=on_ (qn_ (wi_ (k:=fun h1=>?_) (m:=fun h1=>?_))))))))))))))
  · exact absurd h1 (by decide) -- DONE
  refine wk_ (qn_ (ws_ (wr_ (e_ mv (k:=e_ ieq (k:=e_ asn (k:=on_ (qn_ (ws_ (wr_ (e_ mv (k:=e_ asn (k:=on_ (?_))))))))))))))
  refine qn_ (ws_ (wb_ (ws_ (wr_ (e_ mv (k:=e_ ile (k:=e_ mv (k:=sg_and 3 31 (k:=fun h2=>eg_ mv (k:=eg_ ile (k:=e_ pkt (k:=on_ (edq))))) (q:=e_ asn (k:=on_ (qn_ (wi_ (k:=fun h3=>?_) (m:=fun h3=>?_)))))))))))))
  · refine wk_ (bn_ (qn_ (ws_ (ws_ (wr_ (e_ mv (k:=e_ ieq (k:=on_ (qn_ (wi_ (k:=fun h4=>?_) (m:=fun h4=>?_)))))))))))
    · exact absurd h4 (by decide) -- DONE
    refine ws_ (wr_ (e_ mv (k:=e_ ilt (k:=e_ mv (k:=sg_or 3 83 (k:=fun h5=>eg_ mv (k:=eg_ igt (k:=e_ pkf (k:=on_ (edq))))) (q:=on_ (qn_ (wi_ (k:=fun h6=>?_) (m:=fun h6=>?_)))))))))
    · exfalso; rcases h6 with h9 | h9 <;> exact absurd h9 (by decide) -- DONE
    refine wk_ (qn_ (ws_ (wr_ (e_ asn (k:=on_ (qn_ (ws_ (ws_ (wr_ (e_ mv (k:=on_ (qn_ (wb_ (?_))))))))))))))
    refine ws_ (wr_ (e_ ieq (k:=e_ asn (k:=on_ (qn_ (wi_ (k:=fun h7=>?_) (m:=fun h7=>?_)))))))
    · refine wr_ (e_ asn (k:=on_ (bn_ (qn_ (ws_ (wr_ (e_ mv (k:=?_))))))))
      refine e_ ((by first | exact ev_convL 18446744073709551616 rfl rfl rfl _ rfl (by omega) | exact ev_convM 18446744073709551616 rfl rfl rfl _ rfl)) (k:=?_)
      refine e_ (ev_shlM 18446744073709551616 rfl rfl rfl rfl 1 _ rfl rfl) (k:=?_)
      refine e_ (ev_subL 18446744073709551616 rfl rfl rfl rfl 70368744177664 1 rfl rfl (by decide) (by decide)) (k:=?_)
      refine e_ asn (k:=on_ (qn_ (ws_ (wr_ (e_ asn (k:=on_ (qn_ (ws_ (wr_ (e_ asn (k:=on_ (qn_ (ws_ (?_))))))))))))))
      refine ws_ (wr_ (e_ mv (k:=?_)))
      refine s_ (st_sb rfl) (k:=?_)
      rintro _ _ ⟨s99, rfl, rfl⟩
      refine e_ lnn (k:=e_ mv (k:=on_ (qn_ (wb_ (?_)))))
      /- loop 3: no value told of [(12, 'underscores')] -/
      refine wl2_ (Nat × Nat) (fun y => (y.1 = 0 ∧ y.2 = 0) ∨ (y.1 = 1 ∧ y.2 = 1)) (fun y => [(13, .int .u64 ((y.2 : Nat) : Int)), (101, .int .i64 ((y.1 : Nat) : Int))]) [(1, _), (8, _), (9, _), (10, _), (11, _), (12, _), (99, _), (100, _)] (fun y => []) _ (fun y => 1 - y.1) ((0, 0)) (h0:=?_) (k:=?_)
      · try dsimp only
        exact .inl ⟨rfl, rfl⟩
      rintro ⟨i, v⟩ hiv
      try dsimp only [List.cons_append, List.nil_append] at *
      refine ws_ (wr_ (e_ ilt (k:=on_ (qn_ (ws_ (wi_ (k:=fun h8=>?_) (m:=fun h8=>?_)))))))
      · obtain ⟨rfl, rfl⟩ : i = 0 ∧ v = 0 := by
          rcases hiv with h9 | ⟨rfl, _⟩
          · exact h9
          · exact absurd h8 (by decide)
        refine wk_ (qn_ (ws_ (wb_ (ws_ (wr_ (e_ ixa (k:=e_ (lel (hy:=(show (byts ⟨#[49]⟩)[0]? = some 49 from rfl))) (k:=e_ asn (k:=on_ (qn_ (ws_ (wr_ (e_ asn (k:=?_))))))))))))))
        refine on_ (qn_ (ws_ (wb_ (ws_ (wr_ (e_ mv (k:=e_ ieq (k:=e_ mv (k:=sg_and 2 111 (k:=fun h9=>eg_ mv (k:=e_ pkt (k:=on_ (edq)))) (q:=e_ asn (k:=on_ (qn_ (wi_ (k:=fun h10=>?_) (m:=fun h10=>?_))))))))))))))
        · exact absurd h10.1 (by decide) -- DONE
        refine ws_ (wr_ (e_ mv (k:=e_ ile (k:=e_ mv (k:=sg_and 3 118 (k:=fun h11=>eg_ mv (k:=eg_ ile (k:=e_ pkt (k:=on_ (edq))))) (q:=e_ asn (k:=on_ (qn_ (wi_ (k:=fun h12=>?_) (m:=fun h12=>?_))))))))))
        · refine wr_ (e_ mv (k:=?_))
          refine e_ (ev_subL 256 rfl rfl rfl rfl 49 48 rfl rfl (by decide) (by decide)) (k:=?_)
          refine e_ asn (k:=on_ (bn_ (qn_ (ws_ (ws_ (wr_ (e_ mv (k:=e_ mv (k:=?_)))))))))
          refine e_ (ev_convL 256 rfl rfl rfl 10 rfl (by decide)) (k:=?_)
          refine e_ ige (k:=on_ (qn_ (wi_ (k:=fun h13=>?_) (m:=fun h13=>?_))))
          · exact absurd h13 (by decide) -- DONE
          refine wk_ (qn_ (ws_ (ws_ (wr_ (e_ mv (k:=e_ mv (k:=e_ ige (k:=on_ (qn_ (wi_ (k:=fun h14=>?_) (m:=fun h14=>?_)))))))))))
          · exact absurd h14 (by decide) -- DONE
          refine wk_ (qn_ (ws_ (wr_ (e_ mv (k:=e_ mv (k:=?_))))))
          refine e_ ((by first | exact ev_convL 18446744073709551616 rfl rfl rfl _ rfl (by omega) | exact ev_convM 18446744073709551616 rfl rfl rfl _ rfl)) (k:=?_)
          refine e_ (evq (ev_mulM 18446744073709551616 rfl rfl rfl rfl 0 10 rfl rfl) (show Value.int .u64 ((0 * 10 % 18446744073709551616 : Nat) : Int) = .int .u64 ((0 : Nat) : Int) from rfl)) (k:=?_)
          refine e_ asn (k:=on_ (qn_ (ws_ (wr_ (e_ mv (k:=e_ mv (k:=?_)))))))
          refine e_ ((by first | exact ev_convL 18446744073709551616 rfl rfl rfl _ rfl (by omega) | exact ev_convM 18446744073709551616 rfl rfl rfl _ rfl)) (k:=?_)
          refine e_ (evq (ev_addM 18446744073709551616 rfl rfl rfl rfl 0 1 rfl rfl) (show Value.int .u64 (((0 + 1) % 18446744073709551616 : Nat) : Int) = .int .u64 ((1 : Nat) : Int) from rfl)) (k:=?_)
          refine e_ asn (k:=on_ (qn_ (ws_ (ws_ (wr_ (e_ mv (k:=e_ mv (k:=e_ ilt (k:=e_ mv (k:=sg_or 4 159 (k:=fun h15=>eg_ mv (k:=eg_ mv (k:=eg_ igt (k:=e_ pkf (k:=on_ (edq)))))) (q:=on_ (qn_ (wi_ (k:=fun h16=>?_) (m:=fun h16=>?_))))))))))))))
          · exfalso; rcases h16 with h9 | h9 <;> exact absurd h9 (by decide) -- DONE
          refine wk_ (qn_ (wr_ (e_ mv (k:=e_ asn (k:=on_ (bn_ (qn_ (wr_ (e_ iad (k:=e_ mv (k:=on_ (?_))))))))))))
          refine ln_ ((1, 1)) (k:=?_)
          try dsimp only
          exact .inr ⟨rfl, rfl⟩
        exact absurd h12 (by decide) -- DONE
      obtain ⟨rfl, rfl⟩ : i = 1 ∧ v = 1 := by
        rcases hiv with ⟨rfl, _⟩ | h9
        · exact absurd (show ((0 : Nat) : Int) < ((byts ⟨#[49]⟩).length : Int) by decide) h8
        · exact h9
      refine we_ (qe_ (le_ (bh_ (qn_ (ws_ (ws_ (wr_ (e_ mv (k:=e_ mv (k:=sg_and 4 169 (c:=false) (k:=fun h18=>?_) (q:=?_)))))))))))
      · exfalso; have h9 := h18; exact absurd h9 (by decide) -- DONE
      refine on_ (qn_ (wi_ (k:=fun h19=>?_) (m:=fun h19=>?_)))
      · exact absurd h19.1 (by decide) -- DONE
      refine wk_ (qn_ (ws_ (wr_ (e_ mv (k:=e_ asn (k:=e_ asn (k:=on_ (qn_ (wt_ (rt_ Tryz.results31 (k:=?_)))))))))))
      exact ⟨_, hsb, rfl, rfl⟩
    exact absurd h7 (by decide) -- DONE
  exact absurd h3 (by decide) -- DONE
theorem tPU {G : Base} {H : Heap} : SC G Tryz.prog 16 [.string ⟨#[49]⟩, .int .i64 10, .int .i64 46] H (fun v H' => v = .tuple #[.int .u64 1, .nilIface] ∧ H' = H) := by
  refine SC.out (sc_walk Tryz.func16 rfl Tryz.ntmps16 (by kernel_rfl) (Nat.le_of_ble_eq_true rfl) ?_)
  refine ws_ (wr_ (e_ asn (k:=e_ asn (k:=on_ (qn_ (ws_ (wr_ (e_ mv (k:=e_ mv (k:=e_ mv (k:=?_)))))))))))
  refine cp_ (vs:=[_,_,_]) rfl (tPU0) (k:=e_ mv (k:=e_ exr (k:=e_ exr (k:=e_ asn (k:=e_ asn (k:=on_ (qn_ (ws_ (ws_ (wr_ (e_ mv (k:=?_))))))))))))
  refine e_ ((by first | exact ev_neq_nil_nil rfl | exact ev_neq_nil_val rfl)) (k:=?_)
  refine on_ (qn_ (wi_ (k:=fun h1=>?_) (m:=fun h1=>?_)))
  · cases h1 -- DONE
  refine wk_ (qn_ (ws_ (wr_ (e_ mv (k:=e_ asn (k:=e_ asn (k:=on_ (qn_ (wt_ (rt_ Tryz.results16 (k:=?_)))))))))))
  exact ⟨_, hsb, rfl, rfl⟩
end Go.Sx
