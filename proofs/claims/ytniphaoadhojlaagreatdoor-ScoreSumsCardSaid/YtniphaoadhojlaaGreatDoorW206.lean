import Derived.Test.YtniphaoadhojlaaGreatDoorFx
import Derived.Test.YtniphaoadhojlaaGreatDoorSxP
import Derived.Test.YtniphaoadhojlaaGreatDoorW205
set_option linter.all false
namespace Go.Sx
open Go Go.Proofs Tryz
set_option maxRecDepth 100000

theorem tSetSelf {G : Base} {H R : Heap} {F : SV} {all : List Nat} {n : Nat} [hr : RemR H F eU all R] (hF : Full F) (hl : all.length = F.c) (hn : n ≤ F.c) (hn9 : n ≤ 1000000) : SC G Tryz.prog 57 [(F.up n).val, (F.up n).val] H (fun v' H' => v' = (F.up n).val ∧ H' = Row F eU all :: R) := by
  refine SC.lss (HSub.remR hr HSub.refl) ?_
  haveI hz : Sl (Row F eU all :: R) (F.up n) eU (all.take n) := Sl.up (Sl.row (H := R)) hF.nc (by omega)
  have htl : (all.take n).length = n := by rw [List.length_take]; omega
  refine SC.out (sc_walk Tryz.func57 rfl Tryz.ntmps57 (by kernel_rfl) (Nat.le_of_ble_eq_true rfl) ?_)
  refine ws_ (wr_ (e_ asn (k:=on_ (qn_ (ws_ (wr_ (e_ mv (k:=e_ mv (k:=?_)))))))))
  refine e_ (evq lnn (congrArg (fun n : Nat => Value.int .i64 (n : Int)) htl)) (k:=?_)
  refine s_ (st_call (vs := [_, _]) rfl (tMake (F := F) (n := n) (k := n) hF hn9)) (k:=?_)
  rintro _ _ (⟨_, rfl, rfl⟩ | ⟨h8, _⟩)
  · have hcp : F.up n = F.cut 1 0 n := (hF.cut0 n).symm
    rw [hcp]
    refine e_ asn (k:=on_ (qn_ (ws_ (wr_ (e_ mv (k:=e_ mv (k:=?_)))))))
    refine s_ (st_copy (s := F) (a := 0) (b := n) (s2 := F.up n) rfl (by exact congrArg (fun s : SV => some s.val) hcp.symm) rfl (Nat.zero_le _) (by omega) n (by rw [htl, Nat.sub_zero, Nat.min_self])) (k:=?_)
    rintro _ _ ⟨rfl, rfl⟩
    rw [show all.take 0 ++ (all.take n).take n ++ all.drop (0 + n) = all by rw [List.take_zero, List.nil_append, List.take_take, Nat.min_self, Nat.zero_add, List.take_append_drop]]
    refine on_ (qn_ (ws_ (wr_ (e_ mv (k:=e_ asn (k:=on_ (qn_ (wt_ (rt_ Tryz.results57 (k:=?_))))))))))
    exact ⟨_, hsb, rfl, rfl⟩
  omega -- DONE
theorem tSetB {G : Base} {H R : Heap} {F sx : SV} {all xs : List Nat} {n : Nat} [hr : RemR H F eU all R] (hF : Full F) (hl : all.length = F.c) (hw : Wd all) [hx : Sl R sx eU xs] (hx9 : xs.length ≤ 1000000) (hwx : Wd xs) : SC G Tryz.prog 57 [(F.up n).val, sx.val] H (fun v' H' => ∃ (F' : SV) (all' : List Nat), v' = (F'.up xs.length).val ∧ Full F' ∧ all'.length = F'.c ∧ Wd all' ∧ all'.take xs.length = xs ∧ H' = Row F' eU all' :: R) := by
  refine SC.lss (HSub.remR hr HSub.refl) ?_
  refine SC.out (sc_walk Tryz.func57 rfl Tryz.ntmps57 (by kernel_rfl) (Nat.le_of_ble_eq_true rfl) ?_)
  refine ws_ (wr_ (e_ asn (k:=on_ (qn_ (ws_ (wr_ (e_ mv (k:=e_ mv (k:=e_ lnn (k:=?_))))))))))
  refine s_ (st_call (vs := [_, _]) rfl (tMakeW (F := F) (sx := sx) (xs := xs) (n := n) (k := xs.length) (m := xs.length) hF hl hw hx9 (Nat.le_refl _) (.inl hx))) (k:=?_)
  rintro _ _ ⟨F2, mid, post, R2, rfl, hF2, hml, hmp, hk2, hwm, hwp, _, hR2, rfl⟩
  haveI hx2 : Sl R2 sx eU xs := sl_less hR2 hx
  rw [← hF2.cut0 xs.length]
  refine e_ asn (k:=on_ (qn_ (ws_ (wr_ (e_ mv (k:=e_ mv (k:=?_)))))))
  refine s_ (st_copy (s := F2) (a := 0) (b := xs.length) (s2 := sx) rfl rfl rfl (Nat.zero_le _) (by rw [List.length_append]; omega) xs.length (by rw [Nat.sub_zero, Nat.min_self])) (k:=?_)
  rintro _ _ ⟨rfl, rfl⟩
  rw [show (mid ++ post).take 0 ++ xs.take xs.length ++ (mid ++ post).drop (0 + xs.length) = xs ++ post by rw [List.take_zero, List.nil_append, List.take_length, Nat.zero_add, ← hml, List.drop_left]]
  refine on_ (qn_ (ws_ (wr_ (e_ mv (k:=e_ asn (k:=on_ (qn_ (wt_ (rt_ Tryz.results57 (k:=?_))))))))))
  exact ⟨_, HSub.keep hR2, F2, xs ++ post, by rw [hF2.cut0]; rfl, hF2, by rw [List.length_append]; omega, hwx.app hwp, List.take_left, rfl⟩
theorem tNAddSelf {G : Base} {H R : Heap} {F sy : SV} {all : List Nat} {v : Nat} [hr : RemR H F eU all R] (hn : NW F all v) (hv0 : v ≠ 0) (hv9 : (wds v).length ≤ 1000) [hy : Sl R sy eU ([] : List Nat)] : SC G Tryz.prog 39 [(F.up (wds v).length).val, (F.up (wds v).length).val, sy.val] H (fun v' H' => v' = (F.up (wds v).length).val ∧ H' = Row F eU all :: R) := by
  refine SC.lss (HSub.remR hr HSub.refl) ?_
  haveI hz : Sl (Row F eU all :: R) (F.up (wds v).length) eU (wds v) := hn.sl inferInstance
  have hlv : 0 < (wds v).length := Nat.pos_of_ne_zero fun h => hv0 (wds_nil.1 (List.eq_nil_of_length_eq_zero h))
  refine SC.out (sc_walk Tryz.func39 rfl Tryz.ntmps39 (by kernel_rfl) (Nat.le_of_ble_eq_true rfl) ?_)
  refine ws_ (wr_ (e_ asn (k:=on_ (qn_ (ws_ (wr_ (e_ mv (k:=e_ lnn (k:=e_ asn (k:=on_ (qn_ (ws_ (wr_ (?_))))))))))))))
  refine e_ mv (k:=e_ lnn (k:=e_ asn (k:=on_ (qn_ (ws_ (wb_ (ws_ (wr_ (e_ mv (k:=e_ mv (k:=e_ ilt (k:=e_ asn (k:=on_ (?_))))))))))))))
  refine qn_ (wi_ (k:=fun h1=>?_) (m:=fun h1=>?_))
  · exfalso; have h9 := h1; simp at h9; omega -- DONE
  refine ws_ (wr_ (e_ mv (k:=e_ ieq (k:=e_ asn (k:=on_ (qn_ (wi_ (k:=fun h2=>?_) (m:=fun h2=>?_))))))))
  · exfalso; have h9 := h2; omega -- DONE
  refine ws_ (wr_ (e_ mv (k:=e_ ieq (k:=e_ asn (k:=on_ (qn_ (wi_ (k:=fun h3=>?_) (m:=fun h3=>?_))))))))
  · refine ws_ (wr_ (e_ mv (k:=e_ mv (k:=?_))))
    refine cp_ (vs:=[_,_]) rfl (tSetSelf hn.fl hn.len hn.le (by omega)) (k:=e_ asn (k:=on_ (qn_ (wt_ (br_ (qr_ (rt_ Tryz.results39 (k:=?_))))))))
    exact ⟨_, hsb, rfl, rfl⟩
  exfalso; have h9 := h3; simp at h9 -- DONE
theorem tNAddB {G : Base} {H R : Heap} {F sx sy : SV} {all : List Nat} {n u : Nat} [hr : RemR H F eU all R] (hF : Full F) (hl : all.length = F.c) (hw : Wd all) [hx : Sl (Row F eU all :: R) sx eU ([] : List Nat)] [hy : Sl R sy eU (wds u)] (hu0 : u ≠ 0) (hu9 : (wds u).length ≤ 1000) : SC G Tryz.prog 39 [(F.up n).val, sy.val, sx.val] H (fun v' H' => ∃ (F' : SV) (all' : List Nat), v' = (F'.up (wds u).length).val ∧ NW F' all' u ∧ H' = Row F' eU all' :: R) := by
  refine SC.lss (HSub.remR hr HSub.refl) ?_
  have hlv : 0 < (wds u).length := Nat.pos_of_ne_zero fun h => hu0 (wds_nil.1 (List.eq_nil_of_length_eq_zero h))
  refine SC.out (sc_walk Tryz.func39 rfl Tryz.ntmps39 (by kernel_rfl) (Nat.le_of_ble_eq_true rfl) ?_)
  refine ws_ (wr_ (e_ asn (k:=on_ (qn_ (ws_ (wr_ (e_ mv (k:=e_ lnn (k:=e_ asn (k:=on_ (qn_ (ws_ (wr_ (?_))))))))))))))
  refine e_ mv (k:=e_ lnn (k:=e_ asn (k:=on_ (qn_ (ws_ (wb_ (ws_ (wr_ (e_ mv (k:=e_ mv (k:=e_ ilt (k:=e_ asn (k:=on_ (?_))))))))))))))
  refine qn_ (wi_ (k:=fun h1=>?_) (m:=fun h1=>?_))
  · exfalso; have h9 := h1; simp at h9; omega -- DONE
  refine ws_ (wr_ (e_ mv (k:=e_ ieq (k:=e_ asn (k:=on_ (qn_ (wi_ (k:=fun h2=>?_) (m:=fun h2=>?_))))))))
  · exfalso; have h9 := h2; omega -- DONE
  refine ws_ (wr_ (e_ mv (k:=e_ ieq (k:=e_ asn (k:=on_ (qn_ (wi_ (k:=fun h3=>?_) (m:=fun h3=>?_))))))))
  · refine ws_ (wr_ (e_ mv (k:=e_ mv (k:=?_))))
    refine s_ (st_call (vs := [_, _]) rfl (tSetB (sx := sy) (xs := wds u) hF hl hw (by omega) (wds_wd u))) (k:=?_)
    rintro _ _ ⟨F2, all2, rfl, q1, q2, q3, q4, rfl⟩
    refine e_ asn (k:=on_ (qn_ (wt_ (br_ (qr_ (rt_ Tryz.results39 (k:=?_)))))))
    exact ⟨_, hsb, F2, all2, rfl, .mk1 q1 q2 q3 q4, rfl⟩
  exfalso; have h9 := h3; simp at h9 -- DONE
theorem tNAdd0 {G : Base} {H R : Heap} {F sx sy : SV} {all : List Nat} {n u : Nat} [hr : RemR H F eU all R] (hF : Full F) (hl : all.length = F.c) (hw : Wd all) [hx : Sl (Row F eU all :: R) sx eU ([] : List Nat)] [hy : Sl R sy eU (wds u)] (hu0 : u ≠ 0) (hu9 : (wds u).length ≤ 1000) : SC G Tryz.prog 39 [(F.up n).val, sx.val, sy.val] H (fun v' H' => ∃ (F' : SV) (all' : List Nat), v' = (F'.up (wds u).length).val ∧ NW F' all' u ∧ H' = Row F' eU all' :: R) := by
  refine SC.lss (HSub.remR hr HSub.refl) ?_
  have hlv : 0 < (wds u).length := Nat.pos_of_ne_zero fun h => hu0 (wds_nil.1 (List.eq_nil_of_length_eq_zero h))
  refine SC.out (sc_walk Tryz.func39 rfl Tryz.ntmps39 (by kernel_rfl) (Nat.le_of_ble_eq_true rfl) ?_)
  refine ws_ (wr_ (e_ asn (k:=on_ (qn_ (ws_ (wr_ (e_ mv (k:=e_ lnn (k:=e_ asn (k:=on_ (qn_ (ws_ (wr_ (?_))))))))))))))
  refine e_ mv (k:=e_ lnn (k:=e_ asn (k:=on_ (qn_ (ws_ (wb_ (ws_ (wr_ (e_ mv (k:=e_ mv (k:=e_ ilt (k:=e_ asn (k:=on_ (?_))))))))))))))
  refine qn_ (wi_ (k:=fun h1=>?_) (m:=fun h1=>?_))
  · refine ws_ (wr_ (e_ mv (k:=e_ mv (k:=e_ mv (k:=?_)))))
    refine s_ (st_call (vs := [_, _, _]) rfl (tNAddB (sx := sx) (sy := sy) (u := u) hF hl hw hu0 hu9)) (k:=?_)
    rintro _ _ ⟨F2, all2, rfl, hn2, rfl⟩
    refine e_ asn (k:=on_ (qn_ (wt_ (br_ (qr_ (rt_ Tryz.results39 (k:=?_)))))))
    exact ⟨_, hsb, F2, all2, rfl, hn2, rfl⟩
  exfalso; have h9 := h1; rw [List.length_nil] at h9; omega -- DONE
theorem tAddI {G : Base} {H R R2 : Heap} {b c v u : Nat} [hb : Rem H Bg b v R] [hc : Rem R Bg c u R2] (h0 : (v = 0 ∧ u ≠ 0) ∨ (v ≠ 0 ∧ u = 0)) (hv9 : (wds v).length ≤ 1000) (hu9 : (wds u).length ≤ 1000) : SC G Tryz.prog 17 [.pointer (some ⟨b, 0, none⟩), .pointer (some ⟨b, 0, none⟩), .pointer (some ⟨c, 0, none⟩)] H (fun v' H' => v' = .pointer (some ⟨b, 0, none⟩) ∧ H' = Bg b (v + u) :: Bg c u :: R2) := by
  refine SC.lss (HSub.rem hb (HSub.keep (HSub.rem hc HSub.refl))) ?_
  have hen : ∀ (q0 : Array Value) w, (callFunc 17 q0).run Tryz.prog w = .ok (.enter 17 q0) w := fun _ _ => by kernel_rfl
  refine sc_bg b hen fun F all hn => sc_bg c hen fun F' all' hn' => ?_
  have hadd : SC G Tryz.prog 39 [(F.up (wds v).length).val, (F.up (wds v).length).val, (F'.up (wds u).length).val] (Vr c [.bool false, (F'.up (wds u).length).val] :: Row F' eU all' :: Vr b [.bool false, (F.up (wds v).length).val] :: Row F eU all :: R2) (fun v' H' => ∃ (F2 : SV) (all2 : List Nat), v' = (F2.up (wds (v + u)).length).val ∧ NW F2 all2 (v + u) ∧ H' = Row F2 eU all2 :: Vr c [.bool false, (F'.up (wds u).length).val] :: Row F' eU all' :: Vr b [.bool false, (F.up (wds v).length).val] :: R2) := by
    rcases h0 with ⟨rfl, h0⟩ | ⟨h0, rfl⟩
    · rw [Nat.zero_add]
      haveI hx : Sl (Row F eU all :: Vr c [.bool false, (F'.up (wds u).length).val] :: Row F' eU all' :: Vr b [.bool false, (F.up (wds 0).length).val] :: R2) (F.up (wds 0).length) eU ([] : List Nat) := by
        have := hn.sl (H := Row F eU all :: Vr c [.bool false, (F'.up (wds u).length).val] :: Row F' eU all' :: Vr b [.bool false, (F.up (wds 0).length).val] :: R2) inferInstance
        rwa [wds_zero] at this ⊢
      haveI hy : Sl (Vr c [.bool false, (F'.up (wds u).length).val] :: Row F' eU all' :: Vr b [.bool false, (F.up (wds 0).length).val] :: R2) (F'.up (wds u).length) eU (wds u) := hn'.sl inferInstance
      exact tNAdd0 (sx := F.up (wds 0).length) (sy := F'.up (wds u).length) (u := u) hn.fl hn.len hn.wd h0 hu9
    · haveI hy : Sl (Vr c [.bool false, (F'.up (wds 0).length).val] :: Row F' eU all' :: Vr b [.bool false, (F.up (wds v).length).val] :: R2) (F'.up (wds 0).length) eU ([] : List Nat) := by
        have := hn'.sl (H := Vr c [.bool false, (F'.up (wds 0).length).val] :: Row F' eU all' :: Vr b [.bool false, (F.up (wds v).length).val] :: R2) inferInstance
        rwa [wds_zero] at this ⊢
      exact (tNAddSelf hn h0 hv9).mono fun v' H' ⟨h1, h2⟩ => ⟨F, all, h1, hn, h2⟩
  refine SC.out (sc_walk Tryz.func17 rfl Tryz.ntmps17 (by kernel_rfl) (Nat.le_of_ble_eq_true rfl) ?_)
  refine ws_ (wr_ (e_ asn (k:=on_ (qn_ (ws_ (wr_ (e_ mv (k:=e_ nck (k:=e_ fla (k:=e_ ldv (k:=e_ asn (k:=on_ (qn_ (?_))))))))))))))
  refine ws_ (ws_ (?_))
  refine w_still Tryz_mixed (as_ 0 (q:=mv) (k:=as_ 1 (q:=nck) (k:=as_ 2 (q:=fla) (k:=as_ 3 (q:=ldv) (k:=as_ 4 (q:=mv) (k:=as_ 5 (q:=nck) (k:=as_ 6 (q:=fla) (k:=as_ 7 (q:=ldv) (k:=?_)))))))))
  refine an_first 8 rfl rfl (by kernel_rfl) rfl (qv_at (beq_ rfl rfl)) (?_)
  refine az_ (k:=qn_ (wi_ (k:=fun h1=>?_) (m:=fun h1=>?_)))
  · refine w_draw Tryz_mixed (fun i => [13, 16].contains i) (fun k H => (k = 4 → HasV H b [.bool false, (F.up (wds v).length).val]) ∧ (k = 8 → HasV H b [.bool false, (F.up (wds v).length).val]) ∧ (k = 12 → HasV H c [.bool false, (F'.up (wds u).length).val])) (af_ 0 (q:=Qv.of_ev fun H hH=>mv) (k:=af_ 1 (q:=Qv.of_ev fun H hH=>mv) (k:=af_ 2 (q:=Qv.of_ev fun H hH=>nck) (k:=af_ 3 (q:=Qv.of_ev fun H hH=>fla) (k:=?_)))))
    refine an_first 4 rfl rfl (by kernel_rfl) rfl (Qv.of_ev fun H hH=>by have hN := hH.1 rfl; exact ldv) (?_)
    refine af_ 5 (q:=Qv.of_ev fun H hH=>mv) (k:=af_ 6 (q:=Qv.of_ev fun H hH=>nck) (k:=af_ 7 (q:=Qv.of_ev fun H hH=>fla) (k:=?_)))
    refine an_first 8 rfl rfl (by kernel_rfl) rfl (Qv.of_ev fun H hH=>by have hN := hH.2.1 rfl; exact ldv) (?_)
    refine af_ 9 (q:=Qv.of_ev fun H hH=>mv) (k:=af_ 10 (q:=Qv.of_ev fun H hH=>nck) (k:=af_ 11 (q:=Qv.of_ev fun H hH=>fla) (k:=?_)))
    refine an_first 12 rfl rfl (by kernel_rfl) rfl (Qv.of_ev fun H hH=>by have hN := hH.2.2 rfl; exact ldv) (?_)
    refine an_step 13 rfl (by kernel_rfl) rfl (fun k hk => ⟨fun hi => by subst hi; infer_instance, fun hi => by subst hi; infer_instance, fun hi => by subst hi; infer_instance⟩) (st_call (vs := [_, _, _]) rfl (hadd)) ?_
    rintro _ _ ⟨F2, all2, rfl, hn2, rfl⟩
    refine af_ 14 (q:=Qv.of_ev fun H hH=>nck) (k:=af_ 15 (q:=Qv.of_ev fun H hH=>fla) (k:=?_))
    refine an_step 16 rfl (by kernel_rfl) rfl (fun k hk => ⟨fun hi => absurd hk (by subst hi; exact not_live (by kernel_rfl)), fun hi => absurd hk (by subst hi; exact not_live (by kernel_rfl)), fun hi => absurd hk (by subst hi; exact not_live (by kernel_rfl))⟩) (st_store rfl rfl rfl) ?_
    rintro _ _ ⟨rfl, rfl⟩
    refine an_nil (by kernel_rfl) (fun k hk => ⟨fun hi => absurd hk (by subst hi; exact not_live (by kernel_rfl)), fun hi => absurd hk (by subst hi; exact not_live (by kernel_rfl)), fun hi => absurd hk (by subst hi; exact not_live (by kernel_rfl))⟩) (qn_ (ws_ (wr_ (?_))))
    haveI hz2 : Sl (Row F2 eU all2 :: Vr c [.bool false, (F'.up (wds u).length).val] :: Row F' eU all' :: Vr b [.bool false, (F2.up (wds (v + u)).length).val] :: R2) (F2.up (wds (v + u)).length) eU (wds (v + u)) := hn2.sl inferInstance
    refine e_ mv (k:=e_ mv (k:=e_ nck (k:=e_ fla (k:=e_ ldv (k:=e_ lnn (k:=e_ igt (k:=e_ mv (k:=sg_and 2 90 (k:=fun h2=>eg_ mv (k:=e_ pkt (k:=on_ (edq)))) (q:=e_ nck (k:=e_ fla (k:=sto (k:=on_ (qn_ (?_))))))))))))))
    refine ws_ (wr_ (e_ mv (k:=e_ asn (k:=on_ (qn_ (wt_ (rt_ Tryz.results17 (k:=?_))))))))
    rw [Bool.and_false]
    exact ⟨_, HSub.bgI hn2 (HSub.bgI hn' HSub.refl), rfl, rfl⟩
  exact absurd h1 (by decide) -- DONE
end Go.Sx
