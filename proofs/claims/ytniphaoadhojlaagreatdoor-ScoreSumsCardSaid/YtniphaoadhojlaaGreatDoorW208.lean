import Derived.Test.YtniphaoadhojlaaGreatDoorFx
import Derived.Test.YtniphaoadhojlaaGreatDoorSxP
import Derived.Test.YtniphaoadhojlaaGreatDoorW207
set_option linter.all false
namespace Go.Sx
open Go Go.Proofs Tryz
set_option maxRecDepth 100000

theorem tLshVU {G : Base} {H R : Heap} {F sx : SV} {p0 : Nat} {post : List Nat} {v : Nat} [hr : RemR H F eU (p0 :: post) R] (hF : Full F) (hx : RdA R F [p0] post sx [v]) (hv : v < B64) : SC G Tryz.prog 35 [(F.up 1).val, sx.val, .int .u64 18] H (fun v' H' => v' = .int .u64 ((v / 2 ^ 46 : Nat) : Int) ∧ H' = Row F eU ((v * 2 ^ 18 % B64) :: post) :: R) := by
  refine SC.lss (HSub.remR hr HSub.refl) ?_
  obtain ⟨ys, hs, hl0, hg⟩ := hx [] (Nat.zero_le _)
  have hz0 := row_up (R := R) (F := F) (o := []) (mid := [p0]) (post := post) hF (Nat.zero_le _)
  simp only [List.nil_append, List.length_nil, List.drop_zero, List.singleton_append, List.length_cons] at hs hz0 hl0
  have hg0 : ys[0]? = some v := by rw [hg 0 (Nat.le_refl _)]; rfl
  have hv' : v < 18446744073709551616 := hv
  refine SC.out (sc_walk Tryz.func35 rfl Tryz.ntmps35 (by kernel_rfl) (Nat.le_of_ble_eq_true rfl) ?_)
  refine ws_ (wr_ (e_ asn (k:=on_ (qn_ (ws_ (ws_ (wr_ (e_ mv (k:=e_ lnn (k:=e_ mv (k:=e_ lnn (k:=e_ ine (k:=on_ (?_))))))))))))))
  refine qn_ (wi_ (k:=fun h1=>?_) (m:=fun h1=>?_))
  · exfalso; have h9 := h1; simp at h9; omega -- DONE
  refine wk_ (qn_ (ws_ (ws_ (wr_ (e_ mv (k:=e_ ieq (k:=on_ (qn_ (wi_ (k:=fun h2=>?_) (m:=fun h2=>?_))))))))))
  · exact absurd h2 (by decide) -- DONE
  refine wk_ (qn_ (ws_ (ws_ (wr_ (e_ mv (k:=e_ lnn (k:=e_ ieq (k:=on_ (qn_ (wi_ (k:=fun h3=>?_) (m:=fun h3=>?_)))))))))))
  · exfalso; have h9 := h3; simp at h9 -- DONE
  refine wk_ (qn_ (ws_ (wr_ (e_ mv (k:=?_)))))
  refine e_ (evq (ev_andM 18446744073709551616 rfl rfl rfl rfl 18 63 rfl rfl (by decide) (by decide)) (show Value.int .u64 ((18 &&& 63 : Nat) : Int) = .int .u64 18 from rfl)) (k:=?_)
  refine e_ asn (k:=on_ (qn_ (ws_ (wr_ (e_ mv (k:=?_))))))
  refine e_ (evq (ev_subL 18446744073709551616 rfl rfl rfl rfl 64 18 rfl rfl (by decide) (by decide)) (show Value.int .u64 ((64 - 18 : Nat) : Int) = .int .u64 46 from rfl)) (k:=?_)
  refine e_ asn (k:=on_ (qn_ (ws_ (wr_ (e_ mv (k:=?_))))))
  refine e_ (evq (ev_andM 18446744073709551616 rfl rfl rfl rfl 46 63 rfl rfl (by decide) (by decide)) (show Value.int .u64 ((46 &&& 63 : Nat) : Int) = .int .u64 46 from rfl)) (k:=?_)
  refine e_ asn (k:=on_ (qn_ (ws_ (wr_ (e_ mv (k:=e_ mv (k:=e_ lnn (k:=?_))))))))
  refine e_ (evq isb (congrArg (Value.int .i64) (show _ = ((0 : Nat) : Int) from rfl))) (k:=?_)
  refine e_ (ixa (i := 0)) (k:=e_ (lel (hy:=hg0)) (k:=e_ mv (k:=?_)))
  refine e_ (ev_shru rfl rfl v 46 rfl rfl (by decide)) (k:=?_)
  refine e_ asn (k:=on_ (qn_ (ws_ (ws_ (wr_ (e_ mv (k:=e_ lnn (k:=?_))))))))
  refine e_ (evq isb (congrArg (Value.int .i64) (show _ = ((0 : Nat) : Int) from rfl))) (k:=?_)
  refine e_ asn (k:=on_ (qn_ (wb_ (wl2_ (Nat) (fun y => True) (fun y => [(8, .int .i64 ((0 : Nat) : Int))]) [(0, _), (1, _), (2, _), (6, _), (7, _)] (fun y => []) _ (fun y => 0) (0) (h0:=?_) (k:=?_)))))
  · try dsimp only
    all_goals trivial
  rintro i -
  try dsimp only [List.cons_append, List.nil_append] at *
  refine ws_ (ws_ (wr_ (e_ mv (k:=e_ igt (k:=on_ (qn_ (wi_ (k:=fun h4=>?_) (m:=fun h4=>?_))))))))
  · exact absurd h4 (by decide) -- DONE
  refine we_ (qe_ (le_ (bh_ (qn_ (ws_ (wr_ (e_ mv (k:=e_ mv (k:=e_ (ixa (i:=0)) (k:=e_ (lel (hy:=hg0)) (k:=e_ mv (k:=?_))))))))))))
  refine e_ (ev_shlM 18446744073709551616 rfl rfl rfl rfl v 18 rfl rfl) (k:=?_)
  refine e_ (ixa (i:=0)) (k:=?_)
  refine s_ (st_store_el (s := F) (i := 0) rfl rfl rfl (by simp)) (k:=?_)
  rintro _ _ ⟨rfl, rfl⟩
  refine on_ (qn_ (wt_ (rt_ Tryz.results35 (k:=?_))))
  exact ⟨_, hsb, rfl, rfl⟩
theorem tNLsh {G : Base} {H R : Heap} {F : SV} {all : List Nat} {v : Nat} [hr : RemR H F eU all R] (hn : NW F all v) (hv0 : v ≠ 0) (hv : v < B64) : SC G Tryz.prog 43 [(F.up (wds v).length).val, (F.up (wds v).length).val, .int .u64 18] H (fun v' H' => ∃ (F' : SV) (all' : List Nat), v' = (F'.up (wds (v * 2 ^ 18)).length).val ∧ NW F' all' (v * 2 ^ 18) ∧ H' = Row F' eU all' :: R) := by
  refine SC.lss (HSub.remR hr HSub.refl) ?_
  haveI hz : Sl (Row F eU all :: R) (F.up (wds v).length) eU (wds v) := hn.sl inferInstance
  have hlv : (wds v).length = 1 := wds_word hv0 hv
  have hsrc := hn.src (R := R)
  refine SC.out (sc_walk Tryz.func43 rfl Tryz.ntmps43 (by kernel_rfl) (Nat.le_of_ble_eq_true rfl) ?_)
  refine ws_ (wr_ (e_ asn (k:=on_ (qn_ (ws_ (ws_ (wr_ (e_ mv (k:=e_ ieq (k:=on_ (qn_ (wi_ (k:=fun h1=>?_) (m:=fun h1=>?_)))))))))))))
  · exact absurd h1 (by decide) -- DONE
  refine wk_ (qn_ (ws_ (wr_ (e_ mv (k:=e_ lnn (k:=e_ asn (k:=on_ (qn_ (ws_ (ws_ (wr_ (e_ mv (k:=e_ ieq (k:=?_))))))))))))))
  refine on_ (qn_ (wi_ (k:=fun h2=>?_) (m:=fun h2=>?_)))
  · exfalso; have h9 := h2; omega -- DONE
  refine wk_ (qn_ (ws_ (wr_ (e_ mv (k:=e_ mv (k:=?_))))))
  refine e_ (evq (ev_quo rfl rfl 18 64 rfl rfl (by decide) (by decide)) (show Value.int .u64 ((18 / 64 : Nat) : Int) = .int .u64 0 from rfl)) (k:=?_)
  refine e_ (evq (ev_conv64 rfl (by decide)) (show Value.int .i64 (0 : Int) = .int .i64 0 from rfl)) (k:=?_)
  refine e_ (evq iad (congrArg (Value.int .i64) (show _ = ((1 : Nat) : Int) from by omega))) (k:=?_)
  refine e_ asn (k:=on_ (qn_ (ws_ (wr_ (e_ mv (k:=e_ mv (k:=?_)))))))
  refine e_ (evq iad (congrArg (Value.int .i64) (show _ = ((2 : Nat) : Int) from rfl))) (k:=?_)
  refine s_ (st_call (vs := [_, _]) rfl (tMakeW (F := F) (sx := F.up (wds v).length) (xs := wds v) (n := (wds v).length) (k := 2) (m := 1) hn.fl hn.len hn.wd (by decide) (by decide) (.inr ⟨rfl, hlv, hn.le, hn.tk⟩))) (k:=?_)
  rintro _ _ ⟨F2, mid, post, R2, rfl, hF2, hml, hmp, hk2, hwm, hwp, hrd, hR2, rfl⟩
  obtain ⟨p0, rfl⟩ : ∃ p0, mid = [p0] := by
    match mid, hml with
    | [a], _ => exact ⟨a, rfl⟩
  obtain ⟨p1, post, rfl⟩ : ∃ p0 q, post = p0 :: q := by
    cases post with
    | nil => simp at hmp; omega
    | cons a q => exact ⟨a, q, rfl⟩
  rw [wds_one hv0 hv] at hrd
  rw [List.singleton_append]
  refine e_ asn (k:=on_ (qn_ (ws_ (ws_ (wr_ (e_ mv (k:=?_)))))))
  refine e_ (evq (ev_rem rfl rfl 18 64 rfl rfl (by decide)) (show Value.int .u64 ((18 % 64 : Nat) : Int) = .int .u64 18 from rfl)) (k:=?_)
  refine e_ asn (k:=on_ (qn_ (ws_ (wr_ (e_ mv (k:=e_ ieq (k:=on_ (qn_ (wi_ (k:=fun h3=>?_) (m:=fun h3=>?_))))))))))
  · exact absurd h3 (by decide) -- DONE
  refine wr_ (e_ mv (k:=e_ mv (k:=e_ mv (k:=e_ mv (k:=e_ mv (k:=?_))))))
  refine e_ (evq isb (congrArg (Value.int .i64) (show _ = (0 : Int) from by omega))) (k:=?_)
  refine e_ mv (k:=?_)
  refine e_ (ev_slu (F := F2) (n := 2) rfl hF2 1 ⟨_, rfl⟩ ⟨_, _, rfl, rfl⟩ (by omega)) (k:=?_)
  refine e_ mv (k:=e_ mv (k:=?_))
  refine s_ (st_twin (vs := [_, _, _]) (e := Extern.Twins.call "math/big.lshVU_g" Tryz.f70.params Tryz.f70.resultTypes) Tryz.func70 (by kernel_rfl) rfl (by kernel_rfl) (fun _ _ => by kernel_rfl) rfl (tLshVU (F := F2) (p0 := p0) (post := p1 :: post) hF2 (by rw [wds_one hv0 hv]; exact hrd) hv)) (k:=?_)
  rintro _ _ ⟨rfl, rfl⟩
  haveI hz2 : Sl (Row F2 eU (v * 2 ^ 18 % B64 :: p1 :: post) :: R2) (F2.up 2) eU [v * 2 ^ 18 % B64, p1] := by
    exact row_upto (R := R2) (F := F2) (xs := [v * 2 ^ 18 % B64, p1]) (post := post) hF2 (by simp at hmp ⊢; omega)
  refine e_ (ixa (i := 1) (hlt := by simp)) (k:=?_)
  refine s_ (st_store_el (s := F2) (i := 1) rfl rfl rfl (by simp)) (k:=?_)
  rintro _ _ ⟨rfl, rfl⟩
  rw [show (v * 2 ^ 18 % B64 :: p1 :: post).set 1 (v / 2 ^ 46) = [v * 2 ^ 18 % B64, v / 2 ^ 46] ++ post from rfl]
  refine on_ (qn_ (ws_ (wr_ (e_ mv (k:=e_ mv (k:=e_ mv (k:=?_)))))))
  refine e_ (evq isb (congrArg (Value.int .i64) (show _ = (0 : Int) from by omega))) (k:=?_)
  refine e_ (ev_slc (s := F2.up 2) rfl 0 0 ⟨_, _, rfl, rfl⟩ ⟨_, _, rfl, rfl⟩ (Nat.le_refl _) (Nat.zero_le _)) (k:=?_)
  refine s_ (st_clear (s := F2) (a := 0) (b := 0) rfl (Nat.le_refl _) (Nat.zero_le _) rfl) (k:=?_)
  rintro _ _ ⟨rfl, rfl⟩
  rw [List.take_zero, List.drop_zero, Nat.sub_self, List.replicate_zero, List.nil_append, List.nil_append]
  have hwv : wv [v * 2 ^ 18 % B64, v / 2 ^ 46] = v * 2 ^ 18 := by simp only [wv, B64] at *; omega
  have hwd : Wd [v * 2 ^ 18 % B64, v / 2 ^ 46] := Wd.cons (Nat.mod_lt _ (by decide)) (Wd.cons (Nat.lt_of_le_of_lt (Nat.div_le_self _ _) hv) Wd.nil)
  have hcl : [v * 2 ^ 18 % B64, v / 2 ^ 46].length + post.length = F2.c := by simp at hmp ⊢; omega
  haveI hz3 : Sl (Row F2 eU ([v * 2 ^ 18 % B64, v / 2 ^ 46] ++ post) :: R2) (F2.up 2) eU [v * 2 ^ 18 % B64, v / 2 ^ 46] := row_upto (R := R2) hF2 hcl
  refine on_ (qn_ (ws_ (wr_ (e_ mv (k:=?_)))))
  refine cp_ (vs:=[_]) rfl (tNorm hF2 (by simp at hcl ⊢; omega) (by simp) hwd) (k:=e_ asn (k:=on_ (qn_ (wt_ (rt_ Tryz.results43 (k:=?_))))))
  exact ⟨_, HSub.keep hR2, F2, _, by rw [hwv]; rfl, NW.of hF2 hcl hwd (fun q hq => hwp q (List.mem_cons_of_mem _ hq)) hwv, rfl⟩
theorem tLshI {G : Base} {H R : Heap} {b v : Nat} [hb : Rem H Bg b v R] (hv0 : v ≠ 0) (hv : v < B64) : SC G Tryz.prog 20 [.pointer (some ⟨b, 0, none⟩), .pointer (some ⟨b, 0, none⟩), .int .u64 18] H (fun v' H' => v' = .pointer (some ⟨b, 0, none⟩) ∧ H' = Bg b (v * 2 ^ 18) :: R) := by
  refine SC.lss (HSub.rem hb HSub.refl) ?_
  have hen : ∀ (q0 : Array Value) w, (callFunc 20 q0).run Tryz.prog w = .ok (.enter 20 q0) w := fun _ _ => by kernel_rfl
  refine sc_bg b hen fun F all hn => ?_
  refine SC.out (sc_walk Tryz.func20 rfl Tryz.ntmps20 (by kernel_rfl) (Nat.le_of_ble_eq_true rfl) ?_)
  refine ws_ (wr_ (e_ asn (k:=on_ (qn_ (ws_ (?_))))))
  refine w_draw Tryz_mixed (fun i => [10, 13].contains i) (fun k H => (k = 4 → HasV H b [.bool false, (F.up (wds v).length).val]) ∧ (k = 8 → HasV H b [.bool false, (F.up (wds v).length).val])) (af_ 0 (q:=Qv.of_ev fun H hH=>mv) (k:=af_ 1 (q:=Qv.of_ev fun H hH=>mv) (k:=af_ 2 (q:=Qv.of_ev fun H hH=>nck) (k:=af_ 3 (q:=Qv.of_ev fun H hH=>fla) (k:=?_)))))
  refine an_first 4 rfl rfl (by kernel_rfl) rfl (Qv.of_ev fun H hH=>by have hN := hH.1 rfl; exact ldv) (?_)
  refine af_ 5 (q:=Qv.of_ev fun H hH=>mv) (k:=af_ 6 (q:=Qv.of_ev fun H hH=>nck) (k:=af_ 7 (q:=Qv.of_ev fun H hH=>fla) (k:=?_)))
  refine an_first 8 rfl rfl (by kernel_rfl) rfl (Qv.of_ev fun H hH=>by have hN := hH.2 rfl; exact ldv) (?_)
  refine af_ 9 (q:=Qv.of_ev fun H hH=>mv) (k:=?_)
  refine an_step 10 rfl (by kernel_rfl) rfl (fun k hk => ⟨fun hi => by subst hi; infer_instance, fun hi => by subst hi; infer_instance⟩) (st_call (vs := [_, _, _]) rfl (tNLsh hn hv0 hv)) ?_
  rintro _ _ ⟨F2, all2, rfl, hn2, rfl⟩
  refine af_ 11 (q:=Qv.of_ev fun H hH=>nck) (k:=af_ 12 (q:=Qv.of_ev fun H hH=>fla) (k:=?_))
  refine an_step 13 rfl (by kernel_rfl) rfl (fun k hk => ⟨fun hi => absurd hk (by subst hi; exact not_live (by kernel_rfl)), fun hi => absurd hk (by subst hi; exact not_live (by kernel_rfl))⟩) (st_store rfl rfl rfl) ?_
  rintro _ _ ⟨rfl, rfl⟩
  refine an_nil (by kernel_rfl) (fun k hk => ⟨fun hi => absurd hk (by subst hi; exact not_live (by kernel_rfl)), fun hi => absurd hk (by subst hi; exact not_live (by kernel_rfl))⟩) (qn_ (ws_ (wr_ (e_ mv (k:=e_ mv (k:=e_ nck (k:=e_ fla (k:=e_ ldv (k:=e_ nck (k:=e_ fla (k:=sto (k:=on_ (qn_ (?_))))))))))))))
  refine ws_ (wr_ (e_ mv (k:=e_ asn (k:=on_ (qn_ (wt_ (rt_ Tryz.results20 (k:=?_))))))))
  exact ⟨_, HSub.bgI hn2 HSub.refl, rfl, rfl⟩
end Go.Sx
