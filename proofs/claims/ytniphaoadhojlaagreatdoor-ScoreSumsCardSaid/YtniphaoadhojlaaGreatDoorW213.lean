import Derived.Test.YtniphaoadhojlaaGreatDoorFx
import Derived.Test.YtniphaoadhojlaaGreatDoorSxP
import Derived.Test.YtniphaoadhojlaaGreatDoorW212
set_option linter.all false
namespace Go.Sx
open Go Go.Proofs Tryz
set_option maxRecDepth 100000

theorem row_cut {R : Heap} {F : SV} {pre l post : List Nat} : Sl (Row F eU (pre ++ l ++ post) :: R) (F.cut 1 pre.length (pre.length + l.length)) eU l := by
  have := Sl.cut (Sl.row (H := R) (s := F) (e := eU) (xs := pre ++ l ++ post)) (lo := pre.length) (hi := pre.length + l.length) (by omega) (by simp only [List.length_append]; omega)
  rw [List.append_assoc, List.take_append, List.take_of_length_le (by omega), Nat.add_sub_cancel_left, List.take_left, List.drop_left, ← List.append_assoc] at this
  exact this
theorem set_mid2 (pre o mid post : List Nat) (v : Nat) (h : o.length < mid.length) : (pre ++ (o ++ mid.drop o.length) ++ post).set (pre.length + o.length) v = pre ++ ((o ++ [v]) ++ mid.drop (o.length + 1)) ++ post := by
  have := set_mid o mid post v h
  rw [List.append_assoc, List.set_append, if_neg (by omega), Nat.add_sub_cancel_left, this]
  simp only [List.append_assoc]
theorem tAddMul {G : Base} {H R : Heap} {F sy : SV} {pre mid post ys : List Nat} {m : Nat} [hr : RemR H F eU (pre ++ mid ++ post) R] (hpc : pre.length < F.c) [hy : Sl R sy eU ys] (hl : ys.length = mid.length) (hx9 : ys.length ≤ 1000000) (hp9 : pre.length ≤ 1000000) (hw : Wd mid) (hwy : Wd ys) (hm : m < 18446744073709551616) : SC G Tryz.prog 38 [(F.cut 1 pre.length (pre.length + mid.length)).val, (F.cut 1 pre.length (pre.length + mid.length)).val, sy.val, .int .u64 (m : Int), .int .u64 0] H (fun v H' => ∃ (o : List Nat) (c : Nat), v = .int .u64 (c : Int) ∧ o.length = mid.length ∧ Wd o ∧ c < B64 ∧ wv o + B64 ^ mid.length * c = wv mid + wv ys * m ∧ H' = Row F eU (pre ++ o ++ post) :: R) := by
  refine SC.lss (HSub.remR hr HSub.refl) ?_
  haveI hz0 := row_cut (R := R) (F := F) (pre := pre) (l := mid) (post := post)
  refine SC.out (sc_walk Tryz.func38 rfl Tryz.ntmps38 (by kernel_rfl) (Nat.le_of_ble_eq_true rfl) ?_)
  refine ws_ (wr_ (e_ asn (k:=on_ (qn_ (ws_ (ws_ (wr_ (e_ mv (k:=e_ lnn (k:=e_ mv (k:=e_ lnn (k:=e_ ine (k:=e_ mv (k:=?_))))))))))))))
  refine sg_or 6 27 (k:=fun h1=>eg_ mv (k:=eg_ lnn (k:=eg_ mv (k:=eg_ lnn (k:=eg_ ine (k:=e_ pkf (k:=on_ (edq)))))))) (q:=on_ (qn_ (wi_ (k:=fun h2=>?_) (m:=fun h2=>?_))))
  · exfalso; have h9 := h2; simp [hl] at h9 -- DONE
  refine wk_ (qn_ (ws_ (wr_ (e_ mv (k:=e_ asn (k:=on_ (qn_ (ws_ (ws_ (wr_ (e_ mv (k:=e_ lnn (k:=e_ mv (k:=?_))))))))))))))
  refine on_ (qn_ (wb_ (wl2_ (Nat × (List Nat) × Nat) (fun y => y.2.1.length = y.1 ∧ y.1 ≤ mid.length ∧ Wd y.2.1 ∧ y.2.2 < 18446744073709551616 ∧ wv y.2.1 + B64 ^ y.1 * y.2.2 = wv (mid.take y.1) + wv (ys.take y.1) * m) (fun y => [(10, .int .u64 ((y.2.2 : Nat) : Int)), (32, .int .i64 ((y.1 : Nat) : Int))]) [(0, _), (1, _), (2, _), (3, _), (31, _)] (fun y => [Row F eU (pre ++ (y.2.1 ++ mid.drop y.1) ++ post)]) _ (fun y => mid.length - y.1) ((0, [], 0)) (h0:=?_) (k:=?_))))
  · try dsimp only
    exact ⟨rfl, Nat.zero_le _, Wd.nil, by decide, by simp [wv]⟩
  rintro ⟨i, o, c⟩ ⟨hoi, hi, hwo, hc, hv⟩
  try dsimp only [List.cons_append, List.nil_append] at *
  refine ws_ (wr_ (e_ ilt (k:=on_ (qn_ (ws_ (wi_ (k:=fun h3=>?_) (m:=fun h3=>?_)))))))
  · have hi2 : i < mid.length := by have h9 := h3; omega
    obtain ⟨x, hxi⟩ : ∃ x, mid[i]? = some x := ⟨_, List.getElem?_eq_getElem hi2⟩
    obtain ⟨w, hwi⟩ : ∃ w, ys[i]? = some w := ⟨_, List.getElem?_eq_getElem (by omega)⟩
    have hxb : x < 18446744073709551616 := hw.get hxi
    have hwb : w < 18446744073709551616 := hwy.get hwi
    subst hoi
    have hol : (o ++ mid.drop o.length).length = mid.length := by rw [List.length_append, List.length_drop]; omega
    haveI hzi : Sl (Row F eU (pre ++ (o ++ mid.drop o.length) ++ post) :: R) (F.cut 1 pre.length (pre.length + mid.length)) eU (o ++ mid.drop o.length) := by
      have := row_cut (R := R) (F := F) (pre := pre) (l := o ++ mid.drop o.length) (post := post)
      rwa [hol] at this
    have hget : (o ++ mid.drop o.length)[o.length]? = some x := by rw [List.getElem?_append_right (Nat.le_refl _), Nat.sub_self, List.getElem?_drop, Nat.add_zero]; exact hxi
    have hcl : (w * m + x + c) / B64 < B64 := carry2_lt hwb hm hxb hc
    have hcl2 : (w * m + x) / B64 < B64 := carry_lt hwb hm hxb
    have hst := addMul_step (o := o) (zs := mid) (xs := ys) (m := m) rfl hwi hxi hv
    refine wk_ (qn_ (ws_ (wb_ (ws_ (wr_ (e_ mv (k:=e_ asn (k:=on_ (qn_ (ws_ (?_)))))))))))
    refine w_still Tryz_mixed (as_ 0 (q:=mv) (k:=as_ 1 (q:=mv) (k:=as_ 2 (q:=ixa) (k:=as_ 3 (q:=lel (hy:=hwi)) (k:=as_ 4 (q:=mv) (k:=as_ 5 (q:=mv) (k:=as_ 6 (q:=mv) (k:=as_ 7 (q:=ixa) (k:=as_ 8 (q:=lel (hy:=hget)) (k:=?_))))))))))
    refine an_first 9 rfl rfl (by kernel_rfl) rfl (qv_call (vs := [_, _, _]) rfl (tMulAddWWW (x := w) (y := m) (c := x) hwb hm hxb)) (?_)
    refine as_ 10 (q:=mv) (k:=as_ 11 (q:=exr) (k:=as_ 12 (q:=exr) (k:=as_ 13 (q:=asn) (k:=as_ 14 (q:=asn) (k:=az_ (k:=qn_ (ws_ (wr_ (e_ mv (k:=e_ mv (k:=?_)))))))))))
    refine cp_ (vs:=[_,_,_]) rfl (tAdd (x := (w * m + x) % B64) (y := c) (c := 0) (by decide)) (k:=e_ mv (k:=e_ exr (k:=e_ exr (k:=e_ asn (k:=e_ asn (k:=on_ (qn_ (ws_ (wr_ (e_ mv (k:=e_ mv (k:=e_ mv (k:=e_ mv (k:=?_))))))))))))))
    refine e_ asn (k:=?_)
    refine e_ (evq (ixa (i := o.length)) (congrArg Value.pointer (cut_elt hpc))) (k:=?_)
    refine s_ (st_store_el (s := F) (i := pre.length + o.length) rfl rfl rfl (by simp only [List.length_append, List.length_drop]; omega)) (k:=?_)
    rintro _ _ ⟨rfl, rfl⟩
    rw [set_mid2 _ _ _ _ _ hi2, show ((w * m + x) % B64 + c + 0) % B64 = (w * m + x + c) % B64 by simp only [B64]; omega]
    refine on_ (qn_ (wr_ (e_ mv (k:=e_ mv (k:=?_)))))
    refine e_ (evq (ev_addL 18446744073709551616 rfl rfl rfl rfl (((w * m + x) % B64 + c + 0) / B64) ((w * m + x) / B64) rfl rfl (by simp only [B64] at *; omega)) (congrArg (fun n : Nat => Value.int .u64 (n : Int)) (show _ = (w * m + x + c) / B64 by simp only [B64]; omega))) (k:=?_)
    refine e_ asn (k:=on_ (bn_ (qn_ (wr_ (e_ iad (k:=e_ mv (k:=on_ (?_))))))))
    refine ln_ ((o.length + 1, o ++ [(w * m + x + c) % B64], (w * m + x + c) / B64)) (k:=?_)
    try dsimp only
    exact ⟨by simp, by omega, hwo.app (Wd.cons (Nat.mod_lt _ (by decide)) Wd.nil), hcl, hst⟩
  obtain rfl : i = mid.length := by have h9 := h3; omega
  rw [List.drop_length, List.append_nil]
  rw [List.take_length, ← hl, List.take_length, hl] at hv
  refine we_ (qe_ (le_ (bh_ (qn_ (wt_ (rt_ Tryz.results38 (k:=?_)))))))
  exact ⟨_, hsb, o, c, rfl, hoi, hwo, hc, hv, rfl⟩
theorem basic_step {lo o xs : List Nat} {i d c y2 : Nat} (hlo : lo.length = xs.length + i) (hol : o.length = xs.length) (h1 : wv o + B64 ^ xs.length * c = wv (lo.drop i) + wv xs * d) (h2 : wv lo = wv xs * y2) : wv (lo.take i ++ o ++ [c]) = wv xs * (y2 + B64 ^ i * d) := by
  have hi : (lo.take i).length = i := by rw [List.length_take]; omega
  have e1 : wv lo = wv (lo.take i) + B64 ^ i * wv (lo.drop i) := by
    have := wv_app (lo.take i) (lo.drop i)
    rwa [List.take_append_drop, hi] at this
  rw [wv_snoc, wv_app, List.length_append, hi, hol, Nat.pow_add, Nat.mul_assoc, Nat.add_assoc, ← Nat.mul_add, h1, Nat.mul_add, ← Nat.add_assoc, ← e1, h2, Nat.mul_add]
  congr 1
  rw [Nat.mul_left_comm]
theorem tBasicMul {G : Base} {H R : Heap} {F sx : SV} {mid post xs : List Nat} [hr : RemR H F eU (mid ++ post) R] (hF : Full F) (hfc : mid.length + post.length = F.c) [hx : Sl R sx eU xs] (hl : mid.length = xs.length + xs.length) (hx0 : 0 < xs.length) (hx9 : xs.length ≤ 1000) (hw : Wd xs) : SC G Tryz.prog 96 [(F.up mid.length).val, sx.val, sx.val] H (fun v H' => ∃ o : List Nat, v = .tuple #[] ∧ o.length = mid.length ∧ Wd o ∧ wv o = wv xs * wv xs ∧ H' = Row F eU (o ++ post) :: R) := by
  refine SC.lss (HSub.remR hr HSub.refl) ?_
  obtain ⟨fb, fo, hfa⟩ := hF.some (by omega)
  refine SC.out (sc_walk Tryz.func96 rfl Tryz.ntmps96 (by kernel_rfl) (Nat.le_of_ble_eq_true rfl) ?_)
  refine ws_ (wr_ (e_ mv (k:=e_ mv (k:=e_ lnn (k:=e_ mv (k:=e_ lnn (k:=e_ iad (k:=?_))))))))
  refine e_ (ev_slc (s := F.up mid.length) rfl 0 mid.length ⟨_, _, rfl, rfl⟩ ⟨_, _, rfl, by omega⟩ (Nat.zero_le _) (by show mid.length ≤ F.c; omega)) (k:=?_)
  refine s_ (st_clear (s := F) (a := 0) (b := mid.length) rfl (Nat.zero_le _) (by rw [List.length_append]; omega) rfl) (k:=?_)
  rintro _ _ ⟨rfl, rfl⟩
  rw [List.take_zero, List.nil_append, Nat.sub_zero, List.drop_left]
  refine on_ (qn_ (ws_ (wr_ (e_ mv (k:=e_ lnn (k:=e_ mv (k:=on_ (qn_ (wb_ (wl2_ (Nat × (List Nat)) (fun y => y.2.length = xs.length + y.1 ∧ y.1 ≤ xs.length ∧ Wd y.2 ∧ wv y.2 = wv xs * wv (xs.take y.1)) (fun y => [(17, .int .i64 ((y.1 : Nat) : Int))]) [(0, _), (1, _), (15, _), (16, _)] (fun y => [Row F eU (y.2 ++ List.replicate (xs.length - y.1) 0 ++ post)]) R (fun y => xs.length - y.1) ((0, List.replicate xs.length 0)) (hh:=?_) (h0:=?_) (k:=?_)))))))))))
  · try dsimp only
    rw [Nat.sub_zero, List.replicate_append_replicate, ← hl]
    exact hsb
  · try dsimp only
    exact ⟨by simp, Nat.zero_le _, Wd.zeros _, by rw [wv_zeros, List.take_zero]; rfl⟩
  rintro ⟨i, lo⟩ ⟨hlo, hi, hwl, hv⟩
  try dsimp only [List.cons_append, List.nil_append] at *
  refine ws_ (wr_ (e_ ilt (k:=on_ (qn_ (ws_ (wi_ (k:=fun h1=>?_) (m:=fun h1=>?_)))))))
  · have hi2 : i < xs.length := by have h9 := h1; omega
    obtain ⟨d, hdi⟩ : ∃ d, xs[i]? = some d := ⟨_, List.getElem?_eq_getElem hi2⟩
    have hdb : d < 18446744073709551616 := hw.get hdi
    have hrep : List.replicate (xs.length - i) 0 = 0 :: List.replicate (xs.length - (i + 1)) 0 := by
      rw [show xs.length - i = (xs.length - (i + 1)) + 1 by omega, List.replicate_succ]
    refine wk_ (qn_ (ws_ (wb_ (ws_ (wr_ (e_ mv (k:=e_ ixa (k:=e_ (lel (hy:=hdi)) (k:=e_ asn (k:=e_ asn (k:=on_ (qn_ (ws_ (?_))))))))))))))
    refine wr_ (e_ mv (k:=e_ ine (k:=on_ (qn_ (wi_ (k:=fun h2=>?_) (m:=fun h2=>?_))))))
    · have hdl : (lo.drop i).length = xs.length := by rw [List.length_drop]; omega
      have htl : (lo.take i).length = i := by rw [List.length_take]; omega
      have hrow : lo ++ List.replicate (xs.length - i) 0 ++ post = lo.take i ++ lo.drop i ++ (List.replicate (xs.length - i) 0 ++ post) := by rw [List.take_append_drop, List.append_assoc]
      rw [hrow]
      have hcut : F.cut 1 i (i + xs.length) = F.cut 1 (lo.take i).length ((lo.take i).length + (lo.drop i).length) := by rw [htl, hdl]
      refine w_draw Tryz_mixed (fun i => [21, 23].contains i) (fun k H => (k = 2 → Sl H sx eU xs) ∧ (k = 9 → Sl H sx eU xs) ∧ (k = 16 → Sl H sx eU xs)) (af_ 0 (q:=Qv.of_ev fun H hH=>mv) (k:=af_ 1 (q:=Qv.of_ev fun H hH=>mv) (k:=?_)))
      refine an_first 2 rfl rfl (by kernel_rfl) rfl (Qv.of_ev fun H hH=>by have hN := hH.1 rfl; exact lnn) (?_)
      refine af_ 3 (q:=Qv.of_ev fun H hH=>mv) (k:=af_ 4 (q:=Qv.of_ev fun H hH=>iad) (k:=af_ 5 (q:=Qv.of_ev fun H hH=>mv) (k:=af_ 6 (q:=Qv.of_ev fun H hH=>mv) (k:=af_ 7 (q:=Qv.of_ev fun H hH=>mv) (k:=af_ 8 (q:=Qv.of_ev fun H hH=>mv) (k:=?_))))))
      refine an_first 9 rfl rfl (by kernel_rfl) rfl (Qv.of_ev fun H hH=>by have hN := hH.2.1 rfl; exact lnn) (?_)
      refine af_ 10 (q:=Qv.of_ev fun H hH=>iad) (k:=?_)
      refine an_first 11 rfl rfl (by kernel_rfl) rfl (Qv.of_ev fun H hH=>ev_slc (s := F.up mid.length) rfl i (i + xs.length) ⟨_, _, rfl, rfl⟩ ⟨_, _, rfl, by omega⟩ (by omega) (by show i + xs.length ≤ F.c; omega)) (?_)
      refine af_ 12 (q:=Qv.of_ev fun H hH=>mv) (k:=af_ 13 (q:=Qv.of_ev fun H hH=>mv) (k:=af_ 14 (q:=Qv.of_ev fun H hH=>mv) (k:=af_ 15 (q:=Qv.of_ev fun H hH=>mv) (k:=?_))))
      refine an_first 16 rfl rfl (by kernel_rfl) rfl (Qv.of_ev fun H hH=>by have hN := hH.2.2 rfl; exact lnn) (?_)
      refine af_ 17 (q:=Qv.of_ev fun H hH=>iad) (k:=?_)
      refine an_first 18 rfl rfl (by kernel_rfl) rfl (Qv.of_ev fun H hH=>ev_slc (s := F.up mid.length) rfl i (i + xs.length) ⟨_, _, rfl, rfl⟩ ⟨_, _, rfl, by omega⟩ (by omega) (by show i + xs.length ≤ F.c; omega)) (?_)
      refine af_ 19 (q:=Qv.of_ev fun H hH=>mv) (k:=af_ 20 (q:=Qv.of_ev fun H hH=>mv) (k:=?_))
      refine an_step 21 rfl (by kernel_rfl) rfl (fun k hk => ⟨fun hi => by subst hi; infer_instance, fun hi => by subst hi; infer_instance, fun hi => by subst hi; infer_instance⟩) (st_twin (vs := [_, _, _, _, _]) (e := Extern.Twins.call "math/big.addMulVVWW_g" Tryz.f130.params Tryz.f130.resultTypes) Tryz.func130 (by kernel_rfl) rfl (by kernel_rfl) (fun _ _ => by kernel_rfl) rfl (by show SC G Tryz.prog 38 [(F.cut 1 i (i + xs.length)).val, (F.cut 1 i (i + xs.length)).val, _, _, _] _ _; rw [hcut]; exact tAddMul (F := F) (pre := lo.take i) (mid := lo.drop i) (ys := xs) (by rw [htl]; omega) hdl.symm (by omega) (by omega) (hwl.drop i) hw hdb)) ?_
      rintro _ _ ⟨o, c, rfl, hol, hwo, hc, hval, rfl⟩
      refine an_first 22 rfl rfl (by kernel_rfl) rfl (Qv.of_ev fun H hH=>ev_ixv (s := F.up mid.length) rfl rfl ⟨fb, fo, hfa⟩ (xs.length + i) (by omega) (by show xs.length + i < mid.length; omega)) (?_)
      refine an_step 23 rfl (by kernel_rfl) rfl (fun k hk => ⟨fun hi => by subst hi; infer_instance, fun hi => by subst hi; infer_instance, fun hi => by subst hi; infer_instance⟩) (st_store_el (s := F) (i := xs.length + i) rfl rfl rfl (by simp only [List.length_append, List.length_replicate, htl, hol, hdl]; omega)) ?_
      rintro _ _ ⟨rfl, rfl⟩
      rw [hdl] at hol hval
      have hset : (lo.take i ++ o ++ (List.replicate (xs.length - i) 0 ++ post)).set (xs.length + i) c = (lo.take i ++ o ++ [c]) ++ List.replicate (xs.length - (i + 1)) 0 ++ post := by
        have hll : (lo.take i ++ o).length = xs.length + i := by rw [List.length_append, htl, hol]; omega
        rw [List.set_append, if_neg (by omega), hll, Nat.sub_self, hrep]
        simp
      rw [hset]
      have hbs := basic_step (i := i) hlo hol hval hv
      refine an_nil (by kernel_rfl) (fun k hk => ⟨fun hi => absurd hk (by subst hi; exact not_live (by kernel_rfl)), fun hi => absurd hk (by subst hi; exact not_live (by kernel_rfl)), fun hi => absurd hk (by subst hi; exact not_live (by kernel_rfl))⟩) (bn_ (qn_ (wr_ (e_ iad (k:=e_ mv (k:=on_ (?_)))))))
      refine ln_ ((i + 1, (lo.take i ++ o ++ [c]))) (k:=?_)
      try dsimp only
      exact ⟨by simp only [List.length_append, List.length_cons, List.length_nil, htl, hol]; omega, by omega, ((hwl.take i).app hwo).app (Wd.cons hc Wd.nil), by rw [hbs, wv_take hdi]⟩
    have hd0 : d = 0 := by have h9 := h2; omega
    subst hd0
    rw [show lo ++ List.replicate (xs.length - i) 0 ++ post = (lo ++ [0]) ++ List.replicate (xs.length - (i + 1)) 0 ++ post by rw [hrep]; simp]
    refine wk_ (bn_ (qn_ (wr_ (e_ iad (k:=e_ mv (k:=on_ (?_)))))))
    refine ln_ ((i + 1, lo ++ [0])) (k:=?_)
    try dsimp only
    exact ⟨by simp; omega, by omega, hwl.app (Wd.cons (by decide) Wd.nil), by rw [wv_snoc, wv_take hdi, hv]; simp⟩
  obtain rfl : i = xs.length := by have h9 := h1; omega
  rw [Nat.sub_self, List.replicate_zero, List.append_nil]
  rw [List.take_length] at hv
  refine we_ (qe_ (le_ (bh_ (rt_ Tryz.results96 (k:=?_)))))
  exact ⟨_, hsb, lo, rfl, by omega, hwl, hv, rfl⟩
end Go.Sx
