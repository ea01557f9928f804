import Derived.Test.YtniphaoadhojlaaGreatDoorFx
import Derived.Test.YtniphaoadhojlaaGreatDoorSxP
import Derived.Test.YtniphaoadhojlaaGreatDoorSxDg
import Derived.Test.YtniphaoadhojlaaGreatDoorW220
set_option linter.all false
namespace Go.Sx
open Go Go.Proofs Tryz
set_option maxRecDepth 100000

theorem tExpNN {G : Base} {H : Heap} {sx sy : SV} [hx : Sl H sx eU [10]] [hy : Sl H sy eU [18]] : SC G Tryz.prog 74 [.slice none 0 0, .pointer none, sx.val, sy.val, .slice none 0 0, .bool false] (Row SV.nil eU [] :: Row SV.nil eU [] :: Row SV.nil eU [] :: H) (fun v H' => ∃ (F : SV) (all : List Nat), v = (F.up 1).val ∧ NW F all 1000000000000000000 ∧ H' = Row F eU all :: H) := by
  refine SC.out (sc_defers Tryz.func74 rfl Tryz.ntmps74 (by kernel_rfl) (Nat.le_of_ble_eq_true rfl) ?_)
  refine A.ws_ (wr_ (e_ asn (k:=on_ (A.qn_ (A.ws_ (ws_ (wr_ (e_ mv (k:=e_ mv (k:=?_))))))))))
  refine cp_ (vs:=[_,_]) rfl (tAliasNil) (k:=e_ mv (k:=sg_or 4 31 (k:=fun h1=>eg_ mv (k:=eg_ mv (k:=cpg_ (vs:=[_,_]) (hc:=(tAliasNil)) (k:=e_ pkf (k:=on_ (edq)))))) (q:=on_ (qn_ (wi_ (k:=fun h2=>?_) (m:=fun h2=>?_))))))
  · exfalso; rcases h2 with h9 | h9 <;> cases h9 -- DONE
  refine wk_ (A.qn_ (A.ws_ (ws_ (wr_ (e_ mv (k:=e_ (lnn (s:=SV.nil) (xs:=([] : List Nat))) (k:=e_ ieq (k:=e_ mv (k:=sg_and 5 40 (c:=false) (k:=fun h4=>?_) (q:=?_))))))))))
  · exfalso; have h9 := h4; exact absurd h9 (by decide) -- DONE
  refine on_ (qn_ (wi_ (k:=fun h5=>?_) (m:=fun h5=>?_)))
  · exact absurd h5.1 (by decide) -- DONE
  refine wk_ (A.qn_ (A.ws_ (ws_ (wr_ (e_ mv (k:=e_ lnn (k:=e_ ieq (k:=on_ (qn_ (wi_ (k:=fun h6=>?_) (m:=fun h6=>?_)))))))))))
  · exact absurd h6 (by decide) -- DONE
  refine wk_ (A.qn_ (A.ws_ (ws_ (wr_ (e_ mv (k:=e_ lnn (k:=e_ ieq (k:=on_ (qn_ (wi_ (k:=fun h7=>?_) (m:=fun h7=>?_)))))))))))
  · exact absurd h7 (by decide) -- DONE
  refine wk_ (A.qn_ (A.ws_ (ws_ (wr_ (e_ mv (k:=e_ lnn (k:=e_ ieq (k:=e_ mv (k:=sg_and 5 61 (k:=fun h8=>eg_ mv (k:=eg_ (ixa (i:=0)) (k:=eg_ (lel (hy:=(show ([10] : List Nat)[0]? = some 10 from rfl))) (k:=eg_ ieq (k:=e_ pkt (k:=on_ (edq))))))) (q:=on_ (qn_ (wi_ (k:=fun h9=>?_) (m:=fun h9=>?_)))))))))))))
  · exact absurd h9.2 (by decide) -- DONE
  refine wk_ (A.qn_ (A.ws_ (ws_ (wr_ (e_ mv (k:=e_ lnn (k:=e_ ieq (k:=e_ mv (k:=sg_and 5 72 (k:=fun h10=>eg_ mv (k:=eg_ (ixa (i:=0)) (k:=eg_ (lel (hy:=(show ([18] : List Nat)[0]? = some 18 from rfl))) (k:=eg_ ieq (k:=e_ pkt (k:=on_ (edq))))))) (q:=e_ mv (k:=sg_and 4 77 (c:=false) (k:=fun h12=>?_) (q:=?_))))))))))))
  · exfalso; have h9 := h12; revert h9; decide -- DONE
  refine on_ (qn_ (wi_ (k:=fun h13=>?_) (m:=fun h13=>?_)))
  · exact absurd h13.2 (by decide) -- DONE
  refine wk_ (A.qn_ (A.sr_ (A.ws_ (wr_ (e_ mv (k:=?_))))))
  refine e_ (ev_eql_ptr_nil rfl) (k:=?_)
  refine on_ (A.qn_ (A.ct_ rfl (A.ws_ (wr_ (?_)))))
  refine s_ (st_call (vs := []) rfl (tStk)) (k:=?_)
  rintro _ _ ⟨bs, rfl, rfl⟩
  refine e_ asn (k:=on_ (A.qn_ (A.df_ rfl (by decide) rfl (fun _ _ _ hu => quiet_out (tFree (G:=G) (H:=Vr bs [.pointer none] :: H) (b:=bs)).enter hu) ?_)))
  refine (D.ws_ (D.ws_ (D.wr_ (e_ mv (k:=e_ lnn (k:=e_ ieq (k:=e_ mv (k:=sg_and 5 93 (k:=fun h15=>eg_ mv (k:=eg_ (ixa (i:=0)) (k:=eg_ (lel (hy:=(show ([18] : List Nat)[0]? = some 18 from rfl))) (k:=eg_ ieq (k:=e_ pkt (k:=on_ (edq))))))) (q:=on_ (D.qn_ (D.wi_ (k:=fun h16=>?_) (m:=fun h16=>?_))))))))))))
  · exact absurd h16.2 (by decide) -- DONE
  refine D.wk_ (D.qn_ (D.ws_ (D.ws_ (D.wr_ (e_ mv (k:=e_ (lnn (s:=SV.nil) (xs:=([] : List Nat))) (k:=e_ ine (k:=on_ (D.qn_ (D.wi_ (k:=fun h17=>?_) (m:=fun h17=>?_)))))))))))
  · exact absurd rfl h17 -- DONE
  refine D.wk_ (D.qn_ (D.ws_ (D.wr_ (e_ mv (k:=e_ mv (k:=?_))))))
  refine s_ (st_call (vs := [_, _]) rfl (tSetB (F := SV.nil) (n := 0) Full.nil rfl .nil (by decide) w10)) (k:=?_)
  rintro _ _ ⟨F1, all1, rfl, hF1, hl1, hw1, ht1, rfl⟩
  refine e_ asn (k:=on_ (D.qn_ (D.ws_ (D.wr_ (e_ mv (k:=e_ mv (k:=?_)))))))
  refine e_ (evq lnn (show Value.int .i64 ((([18] : List Nat).length : Nat) : Int) = .int .i64 1 from rfl)) (k:=?_)
  refine e_ (evq isb (show Value.int .i64 (1 - 1) = .int .i64 0 from rfl)) (k:=?_)
  refine e_ (ixa (i:=0) (hlt:=by decide)) (k:=e_ (lel (hy:=(show ([18] : List Nat)[0]? = some 18 from rfl))) (k:=e_ asn (k:=on_ (D.qn_ (D.ws_ (D.wr_ (e_ mv (k:=?_))))))))
  refine cp_ (vs:=[_]) rfl (tNlz (x := 18) (n := 59) (by decide) (by decide)) (k:=?_)
  refine e_ (evq (ev_addM 18446744073709551616 rfl rfl rfl rfl 59 1 rfl rfl) (show Value.int .u64 (((59 + 1) % 18446744073709551616 : Nat) : Int) = .int .u64 60 from rfl)) (k:=?_)
  refine e_ asn (k:=on_ (D.qn_ (D.ws_ (D.wr_ (e_ mv (k:=e_ mv (k:=?_)))))))
  refine e_ (evq (ev_shlM 18446744073709551616 rfl rfl rfl rfl 18 60 rfl rfl) (show Value.int .u64 _ = .int .u64 ((vE 0 : Nat) : Int) from rfl)) (k:=?_)
  refine e_ asn (k:=on_ (D.qn_ (D.ws_ (D.wr_ (e_ asn (k:=on_ (D.qn_ (D.ws_ (D.wr_ (e_ mv (k:=?_)))))))))))
  refine e_ (ev_conv64 rfl (by omega)) (k:=?_)
  refine e_ isb (k:=e_ asn (k:=on_ (D.qn_ (D.ws_ (D.wr_ (e_ asn (k:=e_ asn (k:=on_ (D.qn_ (D.ws_ (D.ws_ (D.wr_ (e_ asn (k:=?_))))))))))))))
  refine on_ (D.qn_ (D.wb_ (?_)))
  /- loop 0: no value told of [(17, 'q'), (20, 'r')] -/
  refine D.wl2_ (Nat × SV × ((List Nat)) × SV × ((List Nat)) × Nat) (fun y => y.1 ≤ 4 ∧ NW y.2.1 y.2.2.1 (zE y.1) ∧ Full y.2.2.2.1 ∧ y.2.2.2.2.1.length = y.2.2.2.1.c ∧ Wd y.2.2.2.2.1) (fun y => [(0, (y.2.1.up 1).val), (15, .int .u64 ((vE y.1 : Nat) : Int)), (19, (y.2.2.2.1.up y.2.2.2.2.2).val), (21, .int .i64 ((y.1 : Nat) : Int))]) [(1, _), (2, _), (3, _), (4, _), (17, _), (18, _), (20, _)] (fun y => [Row y.2.1 eU y.2.2.1, Row y.2.2.2.1 eU y.2.2.2.2.1]) _ (fun y => 4 - y.1) ((0, F1, all1, SV.nil, [], 0)) (h0:=?_) (k:=?_)
  · try dsimp only
    exact ⟨by decide, ⟨hF1, hw1, hl1, by rw [show zE 0 = 10 from rfl, w10e]; exact ht1, by rw [show zE 0 = 10 from rfl, w10e]; have h9 := congrArg List.length ht1; rw [List.length_take, hl1] at h9; have h8 : ([10] : List Nat).length = 1 := rfl; omega⟩, .nil, rfl, .nil⟩
  rintro ⟨i, F, all, F2, all2, n⟩ ⟨hi, hn, hF2, hl2, hw2⟩
  try dsimp only [List.cons_append, List.nil_append] at *
  refine D.ws_ (D.ws_ (D.wr_ (e_ mv (k:=e_ mv (k:=e_ ilt (k:=on_ (D.qn_ (D.wi_ (k:=fun h18=>?_) (m:=fun h18=>?_)))))))))
  · have hi4 : i < 4 := by have h9 := h18; omega
    obtain ⟨_, _, _, hv4, hv5⟩ := sE_ok ⟨i, hi4⟩
    obtain ⟨hb1, hb2⟩ := vE_bit ⟨i, hi4⟩
    simp only at hv4 hv5 hb1 hb2
    refine D.wk_ (D.qn_ (D.ws_ (D.wb_ (D.ws_ (D.wr_ (e_ mv (k:=e_ mv (k:=e_ mv (k:=?_)))))))))
    refine s_ (st_call (vs := [_, _, _]) rfl (tSqrE hi4 hn hF2 hl2 hw2)) (k:=?_)
    rintro _ _ ⟨F3, all3, rfl, hn3, rfl⟩
    refine e_ asn (k:=on_ (D.qn_ (D.ws_ (D.wr_ (e_ mv (k:=e_ mv (k:=e_ asn (k:=e_ asn (k:=on_ (D.qn_ (D.ws_ (D.ws_ (D.wr_ (?_))))))))))))))
    refine e_ mv (k:=?_)
    refine e_ (ev_andM 18446744073709551616 rfl rfl rfl rfl _ 9223372036854775808 rfl rfl (by first | decide | omega) (by first | decide | omega)) (k:=?_)
    refine e_ ine (k:=on_ (D.qn_ (D.wi_ (k:=fun h19=>?_) (m:=fun h19=>?_))))
    · obtain rfl : i = 2 := by
        have h9 := h19
        rcases Nat.decEq i 2 with h8 | h8
        · exact absurd (by rw [hb1.2 h8]; rfl) h9
        · exact h8
      refine D.ws_ (D.wr_ (e_ mv (k:=e_ mv (k:=e_ mv (k:=e_ mv (k:=?_))))))
      refine s_ (st_call (vs := [_, _, _, _]) rfl (tMulE hn3 hn.fl hn.len hn.wd)) (k:=?_)
      rintro _ _ ⟨F4, all4, rfl, hn4, rfl⟩
      refine e_ asn (k:=on_ (D.qn_ (D.wr_ (e_ mv (k:=e_ mv (k:=e_ asn (k:=e_ asn (k:=on_ (D.qn_ (D.ws_ (D.ws_ (D.wr_ (e_ mv (k:=?_))))))))))))))
      refine e_ (lnn (s:=SV.nil) (xs:=([] : List Nat))) (k:=e_ ine (k:=on_ (D.qn_ (D.wi_ (k:=fun h20=>?_) (m:=fun h20=>?_)))))
      · exact absurd rfl h20 -- DONE
      refine D.wk_ (D.qn_ (D.wr_ (e_ mv (k:=?_))))
      refine e_ (evq (ev_shlM 18446744073709551616 rfl rfl rfl rfl _ 1 rfl rfl) (congrArg (fun n : Nat => Value.int .u64 (n : Int)) hv4)) (k:=?_)
      refine e_ asn (k:=on_ (bn_ (D.qn_ (D.wr_ (e_ mv (k:=e_ iad (k:=e_ asn (k:=on_ (?_)))))))))
      refine ln_ ((3, F4, all4, F3, all3, 1)) (k:=?_)
      try dsimp only
      exact ⟨by decide, hn4, hn3.fl, hn3.len, hn3.wd⟩
    have hi2 : i ≠ 2 := hb1.1 (by have h9 := h19; omega)
    have hz3 := hb2 hi2
    refine D.wk_ (D.qn_ (D.ws_ (D.ws_ (D.wr_ (e_ mv (k:=e_ (lnn (s:=SV.nil) (xs:=([] : List Nat))) (k:=e_ ine (k:=on_ (D.qn_ (D.wi_ (k:=fun h21=>?_) (m:=fun h21=>?_)))))))))))
    · exact absurd rfl h21 -- DONE
    refine D.wk_ (D.qn_ (D.wr_ (e_ mv (k:=?_))))
    refine e_ (evq (ev_shlM 18446744073709551616 rfl rfl rfl rfl _ 1 rfl rfl) (congrArg (fun n : Nat => Value.int .u64 (n : Int)) hv4)) (k:=?_)
    refine e_ asn (k:=on_ (bn_ (D.qn_ (D.wr_ (e_ mv (k:=e_ iad (k:=e_ asn (k:=on_ (?_)))))))))
    refine ln_ ((i + 1, F3, all3, F, all, 1)) (k:=?_)
    try dsimp only
    exact ⟨by omega, hz3 ▸ hn3, hn.fl, hn.len, hn.wd⟩
  obtain rfl : i = 4 := by have h9 := h18; omega
  refine D.we_ (D.qe_ (le_ (bh_ (D.qn_ (D.ws_ (D.ws_ (D.wr_ (e_ mv (k:=?_)))))))))
  refine e_ (evq lnn (show Value.int .i64 ((([18] : List Nat).length : Nat) : Int) = .int .i64 1 from rfl)) (k:=?_)
  refine e_ (evq isb (show Value.int .i64 (1 - 2) = .int .i64 (-1) from rfl)) (k:=?_)
  refine e_ asn (k:=on_ (D.qn_ (D.wb_ (?_))))
  /- loop 2: no value told of [(0, 'z'), (17, 'q'), (19, 'zz'), (20, 'r')] -/
  refine D.wl2_ (Nat) (fun y => y ≤ 0) (fun y => [(22, .int .i64 (-1))]) [(0, _), (1, _), (2, _), (3, _), (4, _), (17, _), (19, _), (20, _)] (fun y => []) _ (fun y => 0) (0) (h0:=?_) (k:=?_)
  · try dsimp only
    exact Nat.le_refl _
  rintro d hd
  try dsimp only [List.cons_append, List.nil_append] at *
  refine D.ws_ (D.ws_ (D.wr_ (e_ mv (k:=e_ ige (k:=on_ (D.qn_ (D.wi_ (k:=fun h22=>?_) (m:=fun h22=>?_))))))))
  · exact absurd h22 (by decide) -- DONE
  refine D.we_ (D.qe_ (le_ (bh_ (D.qn_ (D.ws_ (D.wr_ (e_ mv (k:=?_))))))))
  refine cp_ (vs:=[_]) rfl (tNormE hn) (k:=e_ asn (k:=on_ (D.qn_ (D.wt_ (rt_ Tryz.results74 (k:=?_))))))
  exact ⟨qFree, _, HSub.refl, _, hsb, F, all, rfl, hn, rfl⟩
end Go.Sx
