import Derived.Test.YtniphaoadhojlaaGreatDoorFx
import Derived.Test.YtniphaoadhojlaaGreatDoorSxP
import Derived.Test.YtniphaoadhojlaaGreatDoorW222
set_option linter.all false
namespace Go.Sx
open Go Go.Proofs Tryz
set_option maxRecDepth 100000

/-! ## score.Parse at "1.5" and at "1.50" -/
def wI (i : Nat) : Nat := if i = 0 then 0 else 5 * 10 ^ (i - 1)
theorem wI_ok : ∀ i : Fin 19, wI i.val < 18446744073709551616 := by decide
theorem wI_ne {i : Nat} (h : 0 < i) : wI i ≠ 0 := by
  rw [wI, if_neg (by omega)]
  have := Nat.pow_pos (n := i - 1) (show 0 < 10 by decide)
  omega
theorem wI_len {i : Nat} (h : i < 19) : (wds (wI i)).length ≤ 1000 := by
  rcases Nat.eq_zero_or_pos (wI i) with h0 | h0
  · rw [h0, wds_zero]; decide
  · rw [wds_word (Nat.pos_iff_ne_zero.1 h0) (wI_ok ⟨i, h⟩)]; decide
theorem wI_succ {i d : Nat} (hd : (i = 0 ∧ d = 5) ∨ (0 < i ∧ d = 0)) : wI i * 10 + d = wI (i + 1) := by
  rcases hd with ⟨rfl, rfl⟩ | ⟨h, rfl⟩
  · rfl
  · obtain ⟨j, rfl⟩ : ∃ j, i = j + 1 := ⟨i - 1, by omega⟩
    rw [wI, wI, if_neg (by omega), if_neg (by omega), Nat.add_sub_cancel, Nat.add_sub_cancel, Nat.pow_succ]
    omega
theorem wI_len2 {i : Nat} (h : i < 18) : (wds (wI i * 10)).length ≤ 1000 := by
  have h2 : wI i * 10 < B64 * B64 := Nat.mul_lt_mul'' (wI_ok ⟨i, by omega⟩) (by decide)
  have := wds_len 2 _ (by rw [Nat.pow_two]; exact h2)
  omega
theorem tAddE {G : Base} {H R R2 : Heap} {b c i d : Nat} [hb : Rem H Bg b (wI i * 10) R] [hc : Rem R Bg c d R2] (hi : i < 18) (hd : (i = 0 ∧ d = 5) ∨ (0 < i ∧ d = 0)) : SC G Tryz.prog 17 [.pointer (some ⟨b, 0, none⟩), .pointer (some ⟨b, 0, none⟩), .pointer (some ⟨c, 0, none⟩)] H (fun v' H' => v' = .pointer (some ⟨b, 0, none⟩) ∧ H' = Bg b (wI (i + 1)) :: Bg c d :: R2) := by
  rw [← wI_succ hd]
  refine tAddI ?_ (wI_len2 hi) ?_
  · rcases hd with ⟨rfl, rfl⟩ | ⟨h, rfl⟩
    · exact .inl ⟨rfl, by decide⟩
    · exact .inr ⟨by have := wI_ne h; omega, rfl⟩
  · rcases hd with ⟨_, rfl⟩ | ⟨_, rfl⟩
    · rw [wds_word (by decide) (by decide)]; decide
    · rw [wds_zero]; decide
theorem tQuoE {G : Base} {H R R2 R3 : Heap} {a b c : Nat} [ha : Rem H Vr a [.bool false, .slice none 0 0] R] [hb : Rem R Bg b 131072000000000000000000 R2] [hc : Rem R2 Bg c 1000000000000000000 R3] : SC G Tryz.prog 22 [.pointer (some ⟨a, 0, none⟩), .pointer (some ⟨b, 0, none⟩), .pointer (some ⟨c, 0, none⟩)] H (fun v' H' => v' = .pointer (some ⟨a, 0, none⟩) ∧ H' = Bg a 131072 :: R3) := by
  refine SC.lss (hs_bg0 (b := a) (HSub.rem hb (HSub.keep (HSub.rem hc HSub.refl)))) ?_
  refine SC.out ((tQuo (v := 131072000000000000000000) (by decide) ?_).mono fun v' H' ⟨h1, h2⟩ => ⟨_, ?_, h1, rfl⟩)
  · have := wds_len 2 131072000000000000000000 (by decide); omega
  · rw [h2]; exact (show HSub (Bg a 131072 :: Bg b 131072000000000000000000 :: Bg c 1000000000000000000 :: R3) (Bg a 131072 :: R3) from hsb)
theorem tSignE {G : Base} {b : Nat} {R : Heap} : SC G Tryz.prog 23 [.pointer (some ⟨b, 0, none⟩)] (Bg b 131072 :: R) (fun v' H' => v' = .int .i64 1 ∧ H' = Bg b 131072 :: R) := (tSign (v := 131072)).mono fun v' H' ⟨h1, h2⟩ => ⟨by rw [h1]; rfl, h2⟩
theorem tBitE {G : Base} {b : Nat} {R : Heap} : SC G Tryz.prog 24 [.pointer (some ⟨b, 0, none⟩)] (Bg b 131072 :: R) (fun v' H' => v' = .int .i64 18 ∧ H' = Bg b 131072 :: R) :=
  (tBitLen (v := 131072) (by rw [wds_word (by decide) (by decide)]; decide)).mono fun v' H' ⟨h1, h2⟩ => ⟨by rw [h1, bitLen_is (k := 17) (by decide) (by decide)]; rfl, h2⟩
theorem tUintE {G : Base} {b : Nat} {R : Heap} : SC G Tryz.prog 25 [.pointer (some ⟨b, 0, none⟩)] (Bg b 131072 :: R) (fun v' H' => v' = .int .u64 ((131072 : Nat) : Int) ∧ H' = Bg b 131072 :: R) := tUint64 (by decide)
theorem tCutE {G : Base} {H : Heap} {q p r : ByteArray} (hi : ixR q 46 = 1) (h2 : 2 ≤ q.size) (hs : q.size ≤ 100) (hp : q.extract 0 1 = p) (hr : q.extract 2 q.size = r) : SC G Tryz.prog 15 [.string q, .string ⟨#[46]⟩] H (fun v H' => v = .tuple #[.string p, .string r, .bool true] ∧ H' = H) := by
  rw [← hp, ← hr]
  exact tCut hi h2 hs
theorem tLshE {G : Base} {H R : Heap} {b : Nat} [hb : Rem H Bg b (wI 18) R] : SC G Tryz.prog 20 [.pointer (some ⟨b, 0, none⟩), .pointer (some ⟨b, 0, none⟩), .int .u64 18] H (fun v' H' => v' = .pointer (some ⟨b, 0, none⟩) ∧ H' = Bg b 131072000000000000000000 :: R) :=
  (tLshI (v := wI 18) (wI_ne (by decide)) (by decide)).mono fun v' H' ⟨h1, h2⟩ => ⟨h1, by rw [h2]; rfl⟩
theorem text_15 : textL 393216 = [49, 46, 53] := by
  rw [textL, dec_small (by decide)]
  decide
theorem tParseE {G : Base} {H : Heap} [hg : Glb G H] {q r : ByteArray} (hi : ixR q 46 = 1) (h2 : 2 ≤ q.size) (hs : q.size ≤ 100) (hp : q.extract 0 1 = ⟨#[49]⟩) (hr : q.extract 2 q.size = r) (hrs : r.size ≤ 2) (hrs1 : 1 ≤ r.size) (hr0 : at0 (byts r) 0 = 53) (hr1 : 1 < r.size → at0 (byts r) 1 = 48) :
    SC G Tryz.prog 7 [.string q] H (fun v H' => v = (if byts q = [49, 46, 53] then .tuple #[.int .u64 393216, .nilIface] else .tuple #[.int .u64 0, G.err 12]) ∧ H' = H) := by
  refine SC.out (sc_walk Tryz.func7 rfl Tryz.ntmps7 (by kernel_rfl) (Nat.le_of_ble_eq_true rfl) ?_)
  refine ws_ (wr_ (e_ asn (k:=e_ asn (k:=on_ (qn_ (ws_ (wr_ (e_ mv (k:=?_)))))))))
  refine cp_ (vs:=[_,_]) rfl (tCutE hi h2 hs hp hr) (k:=e_ mv (k:=e_ exr (k:=e_ exr (k:=e_ exr (k:=e_ asn (k:=e_ asn (k:=e_ asn (k:=on_ (qn_ (ws_ (wr_ (e_ mv (k:=?_)))))))))))))
  refine cp_ (vs:=[_,_,_]) rfl (tPU) (k:=e_ mv (k:=e_ exr (k:=e_ exr (k:=e_ asn (k:=e_ asn (k:=on_ (qn_ (ws_ (ws_ (wr_ (e_ mv (k:=?_))))))))))))
  refine e_ ((by first | exact ev_neq_nil_nil rfl | exact ev_neq_nil_val rfl)) (k:=?_)
  refine e_ mv (k:=sg_or 4 32 (k:=fun h1=>eg_ mv (k:=eg_ lnst (k:=eg_ igt (k:=e_ pkf (k:=on_ (edq)))))) (q:=on_ (qn_ (wi_ (k:=fun h2=>?_) (m:=fun h2=>?_)))))
  · exfalso; rcases h2 with h9 | h9
    · cases h9
    · omega -- DONE
  refine wk_ (qn_ (ws_ (wr_ (alc (k:=fun b=>?_)))))
  refine e_ asn (k:=on_ (qn_ (ws_ (ws_ (wr_ (e_ mv (k:=on_ (qn_ (wb_ (wl2_ (Nat) (fun y => y ≤ 18) (fun y => [(35, .int .i64 ((y : Nat) : Int))]) [(0, _), (5, _), (7, _), (9, _)] (fun y => [Bg b (wI y)]) H (fun y => 18 - y) (0) (hh:=?_) (h0:=?_) (k:=?_)))))))))))
  · try dsimp only
    exact hs_bg0 HSub.refl
  · try dsimp only
    exact Nat.zero_le _
  rintro i hi18
  try dsimp only [List.cons_append, List.nil_append] at *
  refine ws_ (wr_ (e_ ilt (k:=on_ (qn_ (ws_ (wi_ (k:=fun h3=>?_) (m:=fun h3=>?_)))))))
  · have hi9 : i < 18 := by have h9 := h3; omega
    refine wk_ (qn_ (ws_ (wb_ (ws_ (wr_ (e_ mv (k:=e_ asn (k:=on_ (qn_ (ws_ (wr_ (e_ asn (k:=on_ (?_))))))))))))))
    refine qn_ (w_joinE0 (Nat) (fun y => (i = 0 ∧ y = 5) ∨ (0 < i ∧ y = 0)) (fun y => [(11, .int .i64 ((y : Nat) : Int))]) [11, 38, 39, 40, 41, 42, 43, 44, 45, 46] ?_ ?_)
    · refine ws_ (wr_ (e_ mv (k:=e_ mv (k:=e_ lnst (k:=e_ ilt (k:=on_ (qn_ (wi_ (k:=fun h4=>?_) (m:=fun h4=>?_)))))))))
      · have hil : i < r.size := by have h9 := h4; omega
        have hd9 : (i = 0 ∧ at0 (byts r) i = 53) ∨ (0 < i ∧ at0 (byts r) i = 48) := by
          rcases Nat.eq_zero_or_pos i with rfl | h9
          · exact .inl ⟨rfl, hr0⟩
          · obtain rfl : i = 1 := by omega
            exact .inr ⟨by decide, hr1 hil⟩
        refine wr_ (e_ mv (k:=e_ mv (k:=e_ ixs (k:=?_))))
        refine e_ (ev_conv64 rfl (by omega)) (k:=?_)
        refine e_ (evq isb (congrArg (Value.int .i64) (show _ = ((at0 (byts r) i - 48 : Nat) : Int) from by omega))) (k:=?_)
        refine e_ asn (k:=on_ (jnE (at0 (byts r) i - 48) (q:=?_)))
        rcases hd9 with ⟨h8, h9⟩ | ⟨h8, h9⟩
        · exact .inl ⟨h8, by rw [h9]⟩
        · exact .inr ⟨h8, by rw [h9]⟩
      have hil : r.size ≤ i := by have h9 := h4; omega
      refine wk_ (jnE (0) (q:=?_))
      exact .inr ⟨by omega, rfl⟩
    rintro d hd
    try dsimp only [List.cons_append, List.nil_append] at *
    refine wr_ (e_ mv (k:=e_ mv (k:=e_ mv (k:=?_))))
    refine s_ (st_call (vs := [_]) rfl (tNewInt (x := 10) (by decide))) (k:=?_)
    rintro _ _ ⟨b10, rfl, rfl⟩
    refine cp_ (vs:=[_,_,_]) rfl (tMulI (v := wI i) (u := 10) (by decide) (by decide) (wI_len (by omega))) (k:=e_ mv (k:=?_))
    refine s_ (st_call (vs := [_]) rfl (tNewInt (x := d) (by omega))) (k:=?_)
    rintro _ _ ⟨bd, rfl, rfl⟩
    refine cp_ (vs:=[_,_,_]) rfl (tAddE hi9 hd) (k:=on_ (bn_ (qn_ (wr_ (e_ iad (k:=e_ mv (k:=on_ (?_))))))))
    refine ln_ (i + 1) (k:=?_)
    try dsimp only
    omega
  obtain rfl : i = 18 := by have h9 := h3; omega
  refine we_ (qe_ (le_ (bh_ (qn_ (ws_ (wr_ (e_ mv (k:=e_ mv (k:=?_)))))))))
  refine cp_ (vs:=[_,_,_]) rfl (tLshE) (k:=on_ (qn_ (ws_ (wr_ (alc (k:=fun ba=>?_))))))
  refine s_ (st_call (vs := [_]) rfl (tNewInt (x := 10) (by decide))) (k:=?_)
  rintro _ _ ⟨bx, rfl, rfl⟩
  refine s_ (st_call (vs := [_]) rfl (tNewInt (x := 18) (by decide))) (k:=?_)
  rintro _ _ ⟨by2, rfl, rfl⟩
  refine cp_ (vs:=[_,_,_,_]) rfl (tExp (b := bx) (c := by2)) (k:=e_ asn (k:=on_ (qn_ (ws_ (wr_ (alc (k:=fun bq=>?_)))))))
  refine e_ mv (k:=e_ mv (k:=?_))
  refine cp_ (vs:=[_,_,_]) rfl (tQuoE) (k:=e_ asn (k:=on_ (qn_ (ws_ (ws_ (wr_ (e_ mv (k:=?_))))))))
  refine cp_ (vs:=[_]) rfl (tSignE) (k:=e_ ilt (k:=e_ mv (k:=sg_or 4 74 (k:=fun h5=>eg_ mv (k:=cpg_ (vs:=[_]) (hc:=(tBitE)) (k:=eg_ igt (k:=e_ pkf (k:=on_ (edq)))))) (q:=on_ (qn_ (wi_ (k:=fun h6=>?_) (m:=fun h6=>?_)))))))
  · exfalso; rcases h6 with h9 | h9 <;> exact absurd h9 (by decide) -- DONE
  refine wk_ (qn_ (ws_ (wr_ (e_ mv (k:=?_)))))
  refine e_ (evq (ev_shlM 18446744073709551616 rfl rfl rfl rfl 1 18 rfl rfl) (show Value.int .u64 _ = .int .u64 ((262144 : Nat) : Int) from rfl)) (k:=?_)
  refine e_ mv (k:=?_)
  refine cp_ (vs:=[_]) rfl (tUintE) (k:=?_)
  refine e_ (evq (ev_addM 18446744073709551616 rfl rfl rfl rfl 262144 131072 rfl rfl) (show Value.int .u64 _ = .int .u64 ((393216 : Nat) : Int) from rfl)) (k:=?_)
  refine e_ asn (k:=on_ (qn_ (ws_ (ws_ (wr_ (e_ mv (k:=?_)))))))
  refine s_ (st_call (vs := [_]) rfl (tText (x := 393216) (by decide))) (k:=?_)
  rintro _ _ ⟨⟨tx, rfl, htx⟩, rfl⟩
  refine e_ mv (k:=e_ sne_ (k:=on_ (qn_ (wi_ (k:=fun h7=>?_) (m:=fun h7=>?_)))))
  · have hne : ¬ byts q = [49, 46, 53] := by have h9 := h7; rw [htx, text_15] at h9; exact fun h8 => h9 h8.symm
    refine ws_ (?_)
    refine w_draw Tryz_mixed (fun i => [].contains i) (fun k H => (k = 0 → HasV H 0 [G.err 12])) (?_)
    refine an_first 0 rfl rfl (by kernel_rfl) rfl (Qv.of_ev fun H hH=>by have hN := hH rfl; exact ldv) (?_)
    refine af_ 1 (q:=Qv.of_ev fun H hH=>asn) (k:=af_ 2 (q:=Qv.of_ev fun H hH=>asn) (k:=an_nil (by kernel_rfl) (fun k hk => fun hi => by subst hi; infer_instance) (qn_ (wt_ (qr_ (rt_ Tryz.results7 (k:=?_)))))))
    exact ⟨_, hsb, by rw [if_neg hne]; rfl, rfl⟩
  have heq : byts q = [49, 46, 53] := by have h9 := h7; rw [htx, text_15] at h9; exact h9.symm
  refine wk_ (qn_ (ws_ (wr_ (e_ mv (k:=e_ asn (k:=e_ asn (k:=on_ (qn_ (wt_ (rt_ Tryz.results7 (k:=?_)))))))))))
  exact ⟨_, hsb, by rw [if_pos heq]; rfl, rfl⟩
end Go.Sx
