import Derived.Test.YtniphaoadhojlaaGreatDoorFx
import Derived.Test.YtniphaoadhojlaaGreatDoorSxP
import Derived.Test.YtniphaoadhojlaaGreatDoorW213
set_option linter.all false
namespace Go.Sx
open Go Go.Proofs Tryz
set_option maxRecDepth 100000

theorem tAliasNil {G : Base} {H : Heap} {q : Value} : SC G Tryz.prog 69 [.slice none 0 0, q] H (fun v H' => v = .bool false ∧ H' = H) := by
  refine SC.out (sc_walk Tryz.func69 rfl Tryz.ntmps69 (by kernel_rfl) (Nat.le_of_ble_eq_true rfl) ?_)
  refine ws_ (wr_ (e_ asn (k:=on_ (qn_ (ws_ (?_))))))
  refine w_still Tryz_mixed (as_ 0 (q:=mv) (k:=?_))
  refine an_first 1 rfl rfl (by kernel_rfl) rfl (qv_at (ev_cap (s := SV.nil) rfl)) (?_)
  refine as_ 2 (q:=igt) (k:=?_)
  refine an_split 3 rfl rfl (by kernel_rfl) rfl (qv_at (mv)) (fun h1 => ?_) (fun h1 => ?_)
  · replace h1 := nrm h1
    exfalso; have h9 := h1; exact absurd h9 (by decide) -- DONE
  replace h1 := nrm h1
  refine ao_ 4 (k:=ao_ 5 (k:=ao_ 6 (k:=as_ 7 (q:=pkf) (k:=as_ 8 (q:=mv) (k:=ao_ 9 (k:=ao_ 10 (k:=ao_ 11 (k:=ao_ 12 (k:=ao_ 13 (k:=ao_ 14 (k:=ao_ 15 (k:=ao_ 16 (k:=ao_ 17 (k:=?_))))))))))))))
  refine ao_ 18 (k:=ao_ 19 (k:=ao_ 20 (k:=ao_ 21 (k:=ao_ 22 (k:=ao_ 23 (k:=ao_ 24 (k:=ao_ 25 (k:=as_ 26 (q:=pkf) (k:=as_ 27 (q:=asn) (k:=az_ (k:=qn_ (wt_ (rt_ Tryz.results69 (k:=?_))))))))))))))
  exact ⟨_, hsb, rfl, rfl⟩
theorem tAliasSelf {G : Base} {H : Heap} {F : SV} {n : Nat} (hF : Full F) (hc : 0 < F.c) : SC G Tryz.prog 69 [(F.up n).val, (F.up n).val] H (fun v H' => v = .bool true ∧ H' = H) := by
  have hfa := hF.some hc
  have hcp := hF.cp
  refine SC.out (sc_walk Tryz.func69 rfl Tryz.ntmps69 (by kernel_rfl) (Nat.le_of_ble_eq_true rfl) ?_)
  refine ws_ (wr_ (e_ asn (k:=on_ (qn_ (ws_ (?_))))))
  refine w_still Tryz_mixed (as_ 0 (q:=mv) (k:=?_))
  refine an_first 1 rfl rfl (by kernel_rfl) rfl (qv_at (ev_capu rfl)) (?_)
  refine as_ 2 (q:=igt) (k:=?_)
  refine an_split 3 rfl rfl (by kernel_rfl) rfl (qv_at (mv)) (fun h1 => ?_) (fun h1 => ?_)
  · replace h1 := nrm h1
    refine at2 4 (q:=mv) (k:=?_)
    refine an_on 5 rfl rfl rfl rfl (by kernel_rfl) rfl (qv_at (ev_capu rfl)) (?_)
    refine at2 6 (q:=igt) (k:=as_ 7 (q:=pkt) (k:=?_))
    refine an_split 8 rfl rfl (by kernel_rfl) rfl (qv_at (mv)) (fun h2 => ?_) (fun h2 => ?_)
    · replace h2 := nrm h2
      refine at2 9 (q:=mv) (k:=at2 10 (q:=mv) (k:=?_))
      refine an_on 11 rfl rfl rfl rfl (by kernel_rfl) rfl (qv_at (ev_capu rfl)) (?_)
      refine an_on 12 rfl rfl rfl rfl (by kernel_rfl) rfl (qv_at (ev_slu rfl hF F.c ⟨_, rfl⟩ ⟨_, _, rfl, rfl⟩ (Nat.le_refl _))) (?_)
      refine at2 13 (q:=mv) (k:=?_)
      refine an_on 14 rfl rfl rfl rfl (by kernel_rfl) rfl (qv_at (ev_capu rfl)) (?_)
      refine an_on 15 rfl rfl rfl rfl (by kernel_rfl) rfl (qv_at (evq isb (congrArg (Value.int .i64) (show _ = ((F.c - 1 : Nat) : Int) from by omega)))) (?_)
      refine an_on 16 rfl rfl rfl rfl (by kernel_rfl) rfl (qv_at (ev_ixv (s := F.up F.c) rfl rfl hfa (F.c - 1) rfl (by show F.c - 1 < F.c; omega))) (?_)
      refine at2 17 (q:=mv) (k:=at2 18 (q:=mv) (k:=?_))
      refine an_on 19 rfl rfl rfl rfl (by kernel_rfl) rfl (qv_at (ev_capu rfl)) (?_)
      refine an_on 20 rfl rfl rfl rfl (by kernel_rfl) rfl (qv_at (ev_slu rfl hF F.c ⟨_, rfl⟩ ⟨_, _, rfl, rfl⟩ (Nat.le_refl _))) (?_)
      refine at2 21 (q:=mv) (k:=?_)
      refine an_on 22 rfl rfl rfl rfl (by kernel_rfl) rfl (qv_at (ev_capu rfl)) (?_)
      refine an_on 23 rfl rfl rfl rfl (by kernel_rfl) rfl (qv_at (evq isb (congrArg (Value.int .i64) (show _ = ((F.c - 1 : Nat) : Int) from by omega)))) (?_)
      refine an_on 24 rfl rfl rfl rfl (by kernel_rfl) rfl (qv_at (ev_ixv (s := F.up F.c) rfl rfl hfa (F.c - 1) rfl (by show F.c - 1 < F.c; omega))) (?_)
      refine an_on 25 rfl rfl rfl rfl (by kernel_rfl) rfl (qv_at (ev_eql_elt (s := F.up F.c) hfa rfl rfl)) (?_)
      refine as_ 26 (q:=pkt) (k:=as_ 27 (q:=asn) (k:=az_ (k:=qn_ (wt_ (rt_ Tryz.results69 (k:=?_))))))
      exact ⟨_, hsb, rfl, rfl⟩
    replace h2 := nrm h2
    exfalso; have h9 := h2; omega -- DONE
  replace h1 := nrm h1
  exfalso; have h9 := h1; omega -- DONE
/-- Squares of one word. -/
theorem tSqr1 {G : Base} {H R : Heap} {F sx : SV} {all : List Nat} {n v : Nat} {q : Value} [hr : RemR H F eU all R] (hF : Full F) (hl : all.length = F.c) (hw : Wd all) (hx : Src R F all sx (wds v)) (hv0 : v ≠ 0) (hv : v < B64) : SC G Tryz.prog 66 [(F.up n).val, q, sx.val] H (fun v' H' => ∃ (F' : SV) (all' : List Nat), v' = (F'.up (wds (v * v)).length).val ∧ NW F' all' (v * v) ∧ H' = Row F' eU all' :: R) := by
  have hlv : (wds v).length = 1 := wds_word hv0 hv
  haveI hsx := hx.sl hr hF hl
  refine SC.out (sc_walk Tryz.func66 rfl Tryz.ntmps66 (by kernel_rfl) (Nat.le_of_ble_eq_true rfl) ?_)
  refine ws_ (wr_ (e_ asn (k:=on_ (qn_ (ws_ (wr_ (e_ mv (k:=e_ lnn (k:=e_ asn (k:=on_ (qn_ (ws_ (wb_ (?_))))))))))))))
  refine ws_ (wr_ (e_ mv (k:=e_ ieq (k:=e_ asn (k:=on_ (qn_ (wi_ (k:=fun h1=>?_) (m:=fun h1=>?_))))))))
  · exfalso; have h9 := h1; omega -- DONE
  refine ws_ (wr_ (e_ mv (k:=e_ ieq (k:=e_ asn (k:=on_ (qn_ (wi_ (k:=fun h2=>?_) (m:=fun h2=>?_))))))))
  · refine ws_ (wr_ (e_ mv (k:=e_ (ixa (i:=0)) (k:=e_ (lel (hy:=(show (wds v)[0]? = some v by rw [wds_one hv0 hv]; rfl))) (k:=e_ asn (k:=on_ (qn_ (ws_ (wr_ (e_ mv (k:=?_)))))))))))
    refine s_ (st_call (vs := [_, _]) rfl (tMakeW (F := F) (sx := SV.nil) (xs := []) (n := n) (k := 2) (m := 2) hF hl hw (by decide) (Nat.le_refl _) (.inl ⟨fun L _ => ⟨rfl, Nat.le_refl _, .inl ⟨rfl, rfl⟩⟩⟩))) (k:=?_)
    rintro _ _ ⟨F2, mid, post, R2, rfl, hF2, hml, hmp, hk2, hwm, hwp, _, hR2, rfl⟩
    obtain ⟨p0, p1, rfl⟩ : ∃ p0 p1, mid = [p0, p1] := by
      match mid, hml with
      | [a, b], _ => exact ⟨a, b, rfl⟩
    haveI hz := row_upto (R := R2) (F := F2) (xs := [p0, p1]) (post := post) hF2 hmp
    obtain ⟨fb, fo, hfa⟩ := hF2.some (by omega)
    refine e_ asn (k:=on_ (qn_ (ws_ (wr_ (e_ mv (k:=e_ mv (k:=e_ mv (k:=e_ mv (k:=?_)))))))))
    refine cp_ (vs:=[_,_]) rfl (tMulWW (x := v) (y := v) hv hv) (k:=e_ mv (k:=e_ exr (k:=e_ exr (k:=?_))))
    refine e_ (ev_ixv (s := F2.up 2) rfl rfl ⟨fb, fo, hfa⟩ 1 rfl (by show 1 < 2; decide)) (k:=?_)
    refine s_ (st_store_el (s := F2) (i := 1) rfl rfl rfl (by simp)) (k:=?_)
    rintro _ _ ⟨rfl, rfl⟩
    refine e_ (ev_ixv (s := F2.up 2) rfl rfl ⟨fb, fo, hfa⟩ 0 rfl (by show 0 < 2; decide)) (k:=?_)
    refine s_ (st_store_el (s := F2) (i := 0) rfl rfl rfl (by simp)) (k:=?_)
    rintro _ _ ⟨rfl, rfl⟩
    rw [show (([p0, p1] ++ post).set 1 (v * v / B64)).set 0 (v * v % B64) = [v * v % B64, v * v / B64] ++ post from rfl]
    have hwv : wv [v * v % B64, v * v / B64] = v * v := by simp only [wv, B64]; omega
    have hvv : v * v / B64 < B64 := Nat.div_lt_of_lt_mul (Nat.mul_lt_mul'' hv hv)
    have hwd : Wd [v * v % B64, v * v / B64] := Wd.cons (Nat.mod_lt _ (by decide)) (Wd.cons hvv Wd.nil)
    have hcl : [v * v % B64, v * v / B64].length + post.length = F2.c := hmp
    haveI hz3 : Sl (Row F2 eU ([v * v % B64, v * v / B64] ++ post) :: R2) (F2.up 2) eU [v * v % B64, v * v / B64] := row_upto (R := R2) hF2 hcl
    refine on_ (qn_ (ws_ (wr_ (e_ mv (k:=?_)))))
    refine cp_ (vs:=[_]) rfl (tNorm hF2 (by simp at hcl ⊢; omega) (by simp) hwd) (k:=e_ asn (k:=on_ (qn_ (wt_ (br_ (qr_ (rt_ Tryz.results66 (k:=?_))))))))
    exact ⟨_, HSub.keep hR2, F2, _, by rw [hwv]; rfl, NW.of hF2 hcl hwd hwp hwv, rfl⟩
  exfalso; have h9 := h2; omega -- DONE
/-- Squares of longer ones, in place of what is squared. -/
theorem tSqrL {G : Base} {H R : Heap} {F : SV} {all : List Nat} {v : Nat} {q : Value} [hr : RemR H F eU all R] [h27 : HasV R 27 [.int .i64 12]] [h28 : HasV R 28 [.int .i64 80]] (hn : NW F all v) (h2 : 2 ≤ (wds v).length) (h11 : (wds v).length ≤ 11) : SC G Tryz.prog 66 [(F.up (wds v).length).val, q, (F.up (wds v).length).val] H (fun v' H' => ∃ (F' : SV) (all' : List Nat), v' = (F'.up (wds (v * v)).length).val ∧ NW F' all' (v * v) ∧ H' = Row F' eU all' :: R) := by
  refine SC.lss (HSub.remR hr HSub.refl) ?_
  haveI hz : Sl (Row F eU all :: R) (F.up (wds v).length) eU (wds v) := hn.sl inferInstance
  have hle := hn.le
  refine SC.out (sc_walk Tryz.func66 rfl Tryz.ntmps66 (by kernel_rfl) (Nat.le_of_ble_eq_true rfl) ?_)
  refine ws_ (wr_ (e_ asn (k:=on_ (qn_ (ws_ (wr_ (e_ mv (k:=e_ lnn (k:=e_ asn (k:=on_ (qn_ (ws_ (wb_ (?_))))))))))))))
  refine ws_ (wr_ (e_ mv (k:=e_ ieq (k:=e_ asn (k:=on_ (qn_ (wi_ (k:=fun h1=>?_) (m:=fun h1=>?_))))))))
  · exfalso; have h9 := h1; omega -- DONE
  refine ws_ (wr_ (e_ mv (k:=e_ ieq (k:=e_ asn (k:=on_ (qn_ (wi_ (k:=fun h2=>?_) (m:=fun h2=>?_))))))))
  · exfalso; have h9 := h2; omega -- DONE
  refine wk_ (bn_ (qn_ (ws_ (ws_ (wr_ (e_ mv (k:=e_ mv (k:=?_))))))))
  refine cp_ (vs:=[_,_]) rfl (tAliasSelf hn.fl (by omega)) (k:=on_ (qn_ (wi_ (k:=fun h3=>?_) (m:=fun h3=>?_))))
  · refine wr_ (e_ asn (k:=on_ (qn_ (ws_ (wr_ (e_ mv (k:=e_ mv (k:=?_))))))))
    refine e_ (evq iml (congrArg (Value.int .i64) (show _ = ((2 * (wds v).length : Nat) : Int) from by omega))) (k:=?_)
    refine s_ (st_call (vs := [_, _]) rfl (tMake (F := SV.nil) (n := 0) (k := 2 * (wds v).length) Full.nil (by omega))) (k:=?_)
    rintro _ _ (⟨h8, _⟩ | ⟨h8, F2, m, rfl, hF2, hc2, hkm, hm4, rfl⟩)
    · exfalso; have h7 : 2 * (wds v).length ≤ 0 := h8; omega -- DONE
    have hrep : List.replicate m 0 = List.replicate (2 * (wds v).length) 0 ++ List.replicate (m - 2 * (wds v).length) 0 := by rw [List.replicate_append_replicate]; congr 1; omega
    rw [hrep]
    obtain ⟨mid, hmid⟩ : ∃ mid, mid = List.replicate (2 * (wds v).length) 0 := ⟨_, rfl⟩
    obtain ⟨post, hpost⟩ : ∃ post, post = List.replicate (m - 2 * (wds v).length) 0 := ⟨_, rfl⟩
    have hml : mid.length = 2 * (wds v).length := by rw [hmid]; simp
    have hpl : post.length = m - 2 * (wds v).length := by rw [hpost]; simp
    have hwp : Wd post := by rw [hpost]; exact Wd.zeros _
    rw [← hmid, ← hpost, ← hml]
    refine e_ asn (k:=on_ (qn_ (ws_ (ws_ (wr_ (e_ mv (k:=e_ ldv (k:=e_ ilt (k:=e_ mv (k:=sg_and 4 50 (k:=fun h4=>eg_ mv (k:=eg_ ldv (k:=eg_ ilt (k:=e_ pkt (k:=on_ (edq)))))) (q:=on_ (qn_ (wi_ (k:=fun h5=>?_) (m:=fun h5=>?_))))))))))))))
    · refine ws_ (wr_ (e_ mv (k:=e_ mv (k:=e_ mv (k:=?_)))))
      refine s_ (st_call (vs := [_, _, _]) rfl (tBasicMul (F := F2) (sx := F.up (wds v).length) (mid := mid) (post := post) (xs := wds v) hF2 (by omega) (by omega) (by omega) (by omega) (wds_wd v))) (k:=?_)
      rintro _ _ ⟨o, rfl, hol, hwo, hval, rfl⟩
      rw [wv_wds] at hval
      haveI hz2 : Sl (Row F2 eU (o ++ post) :: Row F eU all :: R) (F2.up mid.length) eU o := by
        have := row_upto (R := Row F eU all :: R) (F := F2) (xs := o) (post := post) hF2 (by omega)
        rwa [hol] at this
      refine on_ (qn_ (ws_ (wr_ (e_ mv (k:=?_)))))
      refine cp_ (vs:=[_]) rfl (tNorm hF2 (by omega) (by omega) hwo) (k:=e_ asn (k:=on_ (qn_ (wt_ (qr_ (rt_ Tryz.results66 (k:=?_)))))))
      exact ⟨_, HSub.keep (HSub.drop HSub.refl), F2, _, by rw [hval]; rfl, NW.of hF2 (by omega) hwo hwp hval, rfl⟩
    exfalso; have h9 := h5; omega -- DONE
  exact absurd h3 (by decide) -- DONE
end Go.Sx
