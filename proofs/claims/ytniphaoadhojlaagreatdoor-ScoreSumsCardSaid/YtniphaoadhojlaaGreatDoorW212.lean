import Derived.Test.YtniphaoadhojlaaGreatDoorFx
import Derived.Test.YtniphaoadhojlaaGreatDoorSxP
import Derived.Test.YtniphaoadhojlaaGreatDoorW211
set_option linter.all false
namespace Go.Sx
open Go Go.Proofs Tryz
set_option maxRecDepth 100000

theorem tDivW {G : Base} {H R : Heap} {F sx : SV} {all : List Nat} {n v : Nat} [hr : RemR H F eU all R] (hF : Full F) (hl : all.length = F.c) (hw : Wd all) [hx : Sl R sx eU (wds v)] (hv0 : v ≠ 0) (hv9 : (wds v).length ≤ 1000) : SC G Tryz.prog 75 [(F.up n).val, sx.val, .int .u64 1000000000000000000] H (fun v' H' => ∃ (F' : SV) (all' : List Nat), v' = .tuple #[(F'.up (wds (v / 1000000000000000000)).length).val, .int .u64 ((v % 1000000000000000000 : Nat) : Int)] ∧ NW F' all' (v / 1000000000000000000) ∧ H' = Row F' eU all' :: R) := by
  refine SC.lss (HSub.remR hr HSub.refl) ?_
  have hlv : 0 < (wds v).length := Nat.pos_of_ne_zero fun h => hv0 (wds_nil.1 (List.eq_nil_of_length_eq_zero h))
  refine SC.out (sc_walk Tryz.func75 rfl Tryz.ntmps75 (by kernel_rfl) (Nat.le_of_ble_eq_true rfl) ?_)
  refine ws_ (wr_ (e_ asn (k:=e_ asn (k:=on_ (qn_ (ws_ (wr_ (e_ mv (k:=e_ lnn (k:=e_ asn (k:=on_ (qn_ (ws_ (?_))))))))))))))
  refine wb_ (ws_ (wr_ (e_ mv (k:=e_ ieq (k:=e_ asn (k:=on_ (qn_ (wi_ (k:=fun h1=>?_) (m:=fun h1=>?_)))))))))
  · exact absurd h1 (by decide) -- DONE
  refine ws_ (wr_ (e_ mv (k:=e_ ieq (k:=e_ asn (k:=on_ (qn_ (wi_ (k:=fun h2=>?_) (m:=fun h2=>?_))))))))
  · exact absurd h2 (by decide) -- DONE
  refine ws_ (wr_ (e_ mv (k:=e_ ieq (k:=e_ asn (k:=on_ (qn_ (wi_ (k:=fun h3=>?_) (m:=fun h3=>?_))))))))
  · exfalso; have h9 := h3; omega -- DONE
  refine wk_ (bn_ (qn_ (ws_ (wr_ (e_ mv (k:=e_ mv (k:=?_)))))))
  refine s_ (st_call (vs := [_, _]) rfl (tMakeW (F := F) (sx := sx) (xs := wds v) (n := n) (k := (wds v).length) (m := (wds v).length) hF hl hw (by omega) (Nat.le_refl _) (.inl hx))) (k:=?_)
  rintro _ _ ⟨F2, mid, post, R2, rfl, hF2, hml, hmp, hk2, hwm, hwp, hrd, hR2, rfl⟩
  haveI hx2 : Sl R2 sx eU (wds v) := sl_less hR2 hx
  rw [← hml]
  refine e_ asn (k:=on_ (qn_ (ws_ (wr_ (e_ mv (k:=e_ mv (k:=e_ mv (k:=?_))))))))
  refine s_ (st_call (vs := [_, _, _, _]) rfl (tDivWVW (F := F2) (sx := sx) (mid := mid) (post := post) (xs := wds v) hF2 hmp hml.symm (by omega) (by omega) (wds_wd v))) (k:=?_)
  rintro _ _ ⟨z, r, rfl, hzl, hwz, hr9, hval, rfl⟩
  rw [wv_wds] at hval
  have hq : wv z = v / 1000000000000000000 := by omega
  have hrr : r = v % 1000000000000000000 := by omega
  haveI hz2 : Sl (Row F2 eU (z ++ post) :: R2) (F2.up mid.length) eU z := by
    have := row_upto (R := R2) (F := F2) (xs := z) (post := post) hF2 (by omega)
    rwa [hzl] at this
  refine e_ asn (k:=on_ (qn_ (ws_ (wr_ (e_ mv (k:=?_))))))
  refine cp_ (vs:=[_]) rfl (tNorm hF2 (by omega) (by omega) hwz) (k:=e_ asn (k:=on_ (qn_ (wt_ (rt_ Tryz.results75 (k:=?_))))))
  exact ⟨_, HSub.keep hR2, F2, _, by rw [hq, hrr]; rfl, NW.of hF2 (by omega) hwz hwp hq, rfl⟩
theorem tDivN {G : Base} {H R : Heap} {F sx sy : SV} {all : List Nat} {n v : Nat} [hr : RemR H F eU all R] (hF : Full F) (hl : all.length = F.c) (hw : Wd all) [hx : Sl R sx eU (wds v)] [hy : Sl R sy eU (wds 1000000000000000000)] (hv0 : v ≠ 0) (hv9 : (wds v).length ≤ 1000) : SC G Tryz.prog 45 [(F.up n).val, .pointer none, .slice none 0 0, sx.val, sy.val] H (fun v' H' => ∃ (F' : SV) (all' : List Nat) (u : Value), v' = .tuple #[(F'.up (wds (v / 1000000000000000000)).length).val, u] ∧ NW F' all' (v / 1000000000000000000) ∧ H' = Row F' eU all' :: R) := by
  refine SC.lss (HSub.remR hr HSub.refl) ?_
  have hye : wds 1000000000000000000 = [1000000000000000000] := wds_one (by decide) (by decide)
  rw [hye] at hy
  refine SC.out (sc_walk Tryz.func45 rfl Tryz.ntmps45 (by kernel_rfl) (Nat.le_of_ble_eq_true rfl) ?_)
  refine ws_ (wr_ (e_ asn (k:=e_ asn (k:=on_ (qn_ (ws_ (ws_ (wr_ (e_ mv (k:=e_ lnn (k:=e_ ieq (k:=on_ (qn_ (?_))))))))))))))
  refine wi_ (k:=fun h1=>?_) (m:=fun h1=>?_)
  · exact absurd h1 (by decide) -- DONE
  refine wk_ (qn_ (ws_ (ws_ (wr_ (e_ mv (k:=e_ lnn (k:=e_ ieq (k:=on_ (qn_ (wi_ (k:=fun h2=>?_) (m:=fun h2=>?_)))))))))))
  · refine ws_ (wr_ (e_ asn (k:=on_ (qn_ (ws_ (wr_ (e_ mv (k:=e_ mv (k:=e_ mv (k:=e_ (ixa (i:=0)) (k:=e_ (lel (hy:=(show [1000000000000000000][0]? = some 1000000000000000000 from rfl))) (k:=?_))))))))))))
    refine s_ (st_call (vs := [_, _, _]) rfl (tDivW hF hl hw hv0 hv9)) (k:=?_)
    rintro _ _ ⟨F2, all2, rfl, hn2, rfl⟩
    refine e_ mv (k:=e_ exr (k:=e_ exr (k:=e_ asn (k:=e_ asn (k:=on_ (qn_ (ws_ (wr_ (e_ mv (k:=e_ mv (k:=?_)))))))))))
    refine s_ (st_call (vs := [_, _]) rfl (sc_nil eU (tSetWord (F := SV.nil) (all := []) (n := 0) Full.nil rfl Wd.nil (by simp only [B64]; omega)))) (k:=?_)
    rintro _ _ ⟨F3, all3, rfl, hn3, rfl⟩
    refine e_ asn (k:=on_ (qn_ (wt_ (qr_ (rt_ Tryz.results45 (k:=?_))))))
    exact ⟨_, HSub.drop HSub.refl, F2, all2, _, rfl, hn2, rfl⟩
  exact absurd (rfl : (([1000000000000000000] : List Nat).length : Int) = 1) h2 -- DONE
theorem tQuo {G : Base} {H R R2 R3 : Heap} {a b c v : Nat} [ha : Rem H Bg a 0 R] [hb : Rem R Bg b v R2] [hc : Rem R2 Bg c 1000000000000000000 R3] (hv0 : v ≠ 0) (hv9 : (wds v).length ≤ 1000) : SC G Tryz.prog 22 [.pointer (some ⟨a, 0, none⟩), .pointer (some ⟨b, 0, none⟩), .pointer (some ⟨c, 0, none⟩)] H (fun v' H' => v' = .pointer (some ⟨a, 0, none⟩) ∧ H' = Bg a (v / 1000000000000000000) :: Bg b v :: Bg c 1000000000000000000 :: R3) := by
  refine SC.lss (HSub.rem ha (HSub.keep (HSub.rem hb (HSub.keep (HSub.rem hc HSub.refl))))) ?_
  have hen : ∀ (q0 : Array Value) w, (callFunc 22 q0).run Tryz.prog w = .ok (.enter 22 q0) w := fun _ _ => by kernel_rfl
  refine sc_bg a hen fun F all hn => sc_bg b hen fun F' all' hn' => sc_bg c hen fun F9 all9 hn9 => ?_
  refine SC.out (sc_walk Tryz.func22 rfl Tryz.ntmps22 (by kernel_rfl) (Nat.le_of_ble_eq_true rfl) ?_)
  refine ws_ (wr_ (e_ asn (k:=on_ (qn_ (ws_ (?_))))))
  refine w_draw Tryz_mixed (fun i => [13, 19].contains i) (fun k H => (k = 4 → HasV H a [.bool false, (F.up (wds 0).length).val]) ∧ (k = 8 → HasV H b [.bool false, (F'.up (wds v).length).val]) ∧ (k = 12 → HasV H c [.bool false, (F9.up (wds 1000000000000000000).length).val])) (af_ 0 (q:=Qv.of_ev fun H hH=>mv) (k:=af_ 1 (q:=Qv.of_ev fun H hH=>mv) (k:=af_ 2 (q:=Qv.of_ev fun H hH=>nck) (k:=af_ 3 (q:=Qv.of_ev fun H hH=>fla) (k:=?_)))))
  refine an_first 4 rfl rfl (by kernel_rfl) rfl (Qv.of_ev fun H hH=>by have hN := hH.1 rfl; exact ldv) (?_)
  refine af_ 5 (q:=Qv.of_ev fun H hH=>mv) (k:=af_ 6 (q:=Qv.of_ev fun H hH=>nck) (k:=af_ 7 (q:=Qv.of_ev fun H hH=>fla) (k:=?_)))
  refine an_first 8 rfl rfl (by kernel_rfl) rfl (Qv.of_ev fun H hH=>by have hN := hH.2.1 rfl; exact ldv) (?_)
  refine af_ 9 (q:=Qv.of_ev fun H hH=>mv) (k:=af_ 10 (q:=Qv.of_ev fun H hH=>nck) (k:=af_ 11 (q:=Qv.of_ev fun H hH=>fla) (k:=?_)))
  refine an_first 12 rfl rfl (by kernel_rfl) rfl (Qv.of_ev fun H hH=>by have hN := hH.2.2 rfl; exact ldv) (?_)
  refine an_step 13 rfl (by kernel_rfl) rfl (fun k hk => ⟨fun hi => by subst hi; first | infer_instance | exact hn2.sl inferInstance, fun hi => by subst hi; first | infer_instance | exact hn2.sl inferInstance, fun hi => by subst hi; first | infer_instance | exact hn2.sl inferInstance⟩) (st_call (vs := [_, _, _, _, _]) rfl (tDivN (sx := F'.up (wds v).length) (sy := F9.up (wds 1000000000000000000).length) (hx := hn'.sl inferInstance) (hy := hn9.sl inferInstance) hn.fl hn.len hn.wd hv0 hv9)) ?_
  rintro _ _ ⟨F2, all2, u2, rfl, hn2, rfl⟩
  refine af_ 14 (q:=Qv.of_ev fun H hH=>mv) (k:=af_ 15 (q:=Qv.of_ev fun H hH=>exr) (k:=af_ 16 (q:=Qv.of_ev fun H hH=>exr) (k:=af_ 17 (q:=Qv.of_ev fun H hH=>nck) (k:=af_ 18 (q:=Qv.of_ev fun H hH=>fla) (k:=?_)))))
  refine an_step 19 rfl (by kernel_rfl) rfl (fun k hk => ⟨fun hi => absurd hk (by subst hi; exact not_live (by kernel_rfl)), fun hi => absurd hk (by subst hi; exact not_live (by kernel_rfl)), fun hi => absurd hk (by subst hi; exact not_live (by kernel_rfl))⟩) (st_store rfl rfl rfl) ?_
  rintro _ _ ⟨rfl, rfl⟩
  refine an_nil (by kernel_rfl) (fun k hk => ⟨fun hi => absurd hk (by subst hi; exact not_live (by kernel_rfl)), fun hi => absurd hk (by subst hi; exact not_live (by kernel_rfl)), fun hi => absurd hk (by subst hi; exact not_live (by kernel_rfl))⟩) (qn_ (ws_ (?_)))
  refine w_draw Tryz_mixed (fun i => [20].contains i) (fun k H => (k = 4 → HasV H a [.bool false, (F2.up (wds (v / 1000000000000000000)).length).val]) ∧ (k = 5 → Sl H (F2.up (wds (v / 1000000000000000000)).length) eU (wds (v / 1000000000000000000))) ∧ (k = 11 → HasV H b [.bool false, (F'.up (wds v).length).val]) ∧ (k = 15 → HasV H c [.bool false, (F9.up (wds 1000000000000000000).length).val])) (af_ 0 (q:=Qv.of_ev fun H hH=>mv) (k:=af_ 1 (q:=Qv.of_ev fun H hH=>mv) (k:=af_ 2 (q:=Qv.of_ev fun H hH=>nck) (k:=af_ 3 (q:=Qv.of_ev fun H hH=>fla) (k:=?_)))))
  refine an_first 4 rfl rfl (by kernel_rfl) rfl (Qv.of_ev fun H hH=>by have hN := hH.1 rfl; exact ldv) (?_)
  refine an_first 5 rfl rfl (by kernel_rfl) rfl (Qv.of_ev fun H hH=>by have hN := hH.2.1 rfl; exact lnn) (?_)
  refine af_ 6 (q:=Qv.of_ev fun H hH=>igt) (k:=?_)
  refine an_split 7 rfl rfl (by kernel_rfl) rfl (Qv.of_ev fun H hH=>mv) (fun h1 => ?_) (fun h1 => ?_)
  · replace h1 := nrm h1
    refine ag_ 8 (q:=Qv.of_ev fun H hH=>mv) (k:=ag_ 9 (q:=Qv.of_ev fun H hH=>nck) (k:=ag_ 10 (q:=Qv.of_ev fun H hH=>fla) (k:=?_)))
    refine an_on 11 rfl rfl rfl rfl (by kernel_rfl) rfl (Qv.of_ev fun H hH=>by have hN := hH.2.2.1 rfl; exact ldv) (?_)
    refine ag_ 12 (q:=Qv.of_ev fun H hH=>mv) (k:=ag_ 13 (q:=Qv.of_ev fun H hH=>nck) (k:=ag_ 14 (q:=Qv.of_ev fun H hH=>fla) (k:=?_)))
    refine an_on 15 rfl rfl rfl rfl (by kernel_rfl) rfl (Qv.of_ev fun H hH=>by have hN := hH.2.2.2 rfl; exact ldv) (?_)
    refine an_on 16 rfl rfl rfl rfl (by kernel_rfl) rfl (Qv.of_ev fun H hH=>bne_ rfl rfl) (?_)
    refine af_ 17 (q:=Qv.of_ev fun H hH=>pkt) (k:=af_ 18 (q:=Qv.of_ev fun H hH=>nck) (k:=af_ 19 (q:=Qv.of_ev fun H hH=>fla) (k:=?_)))
    refine an_step 20 rfl (by kernel_rfl) rfl (fun k hk => ⟨fun hi => by subst hi; first | infer_instance | exact hn2.sl inferInstance, fun hi => by subst hi; first | infer_instance | exact hn2.sl inferInstance, fun hi => by subst hi; first | infer_instance | exact hn2.sl inferInstance, fun hi => by subst hi; first | infer_instance | exact hn2.sl inferInstance⟩) (st_store rfl rfl rfl) ?_
    rintro _ _ ⟨rfl, rfl⟩
    refine an_nil (by kernel_rfl) (fun k hk => ⟨fun hi => absurd hk (by subst hi; exact not_live (by kernel_rfl)), fun hi => absurd hk (by subst hi; exact not_live (by kernel_rfl)), fun hi => absurd hk (by subst hi; exact not_live (by kernel_rfl)), fun hi => absurd hk (by subst hi; exact not_live (by kernel_rfl))⟩) (qn_ (ws_ (wr_ (e_ mv (k:=e_ asn (k:=on_ (qn_ (wt_ (rt_ Tryz.results22 (k:=?_))))))))))
    exact ⟨_, HSub.bgI hn2 (HSub.bgI hn' (HSub.bgI hn9 HSub.refl)), rfl, rfl⟩
  replace h1 := nrm h1
  refine ao_ 8 (k:=ao_ 9 (k:=ao_ 10 (k:=ao_ 11 (k:=ao_ 12 (k:=ao_ 13 (k:=ao_ 14 (k:=ao_ 15 (k:=ao_ 16 (k:=af_ 17 (q:=Qv.of_ev fun H hH=>pkf) (k:=af_ 18 (q:=Qv.of_ev fun H hH=>nck) (k:=af_ 19 (q:=Qv.of_ev fun H hH=>fla) (k:=?_))))))))))))
  refine an_step 20 rfl (by kernel_rfl) rfl (fun k hk => ⟨fun hi => by subst hi; first | infer_instance | exact hn2.sl inferInstance, fun hi => by subst hi; first | infer_instance | exact hn2.sl inferInstance, fun hi => by subst hi; first | infer_instance | exact hn2.sl inferInstance, fun hi => by subst hi; first | infer_instance | exact hn2.sl inferInstance⟩) (st_store rfl rfl rfl) ?_
  rintro _ _ ⟨rfl, rfl⟩
  refine an_nil (by kernel_rfl) (fun k hk => ⟨fun hi => absurd hk (by subst hi; exact not_live (by kernel_rfl)), fun hi => absurd hk (by subst hi; exact not_live (by kernel_rfl)), fun hi => absurd hk (by subst hi; exact not_live (by kernel_rfl)), fun hi => absurd hk (by subst hi; exact not_live (by kernel_rfl))⟩) (qn_ (ws_ (wr_ (e_ mv (k:=e_ asn (k:=on_ (qn_ (wt_ (rt_ Tryz.results22 (k:=?_))))))))))
  exact ⟨_, HSub.bgI hn2 (HSub.bgI hn' (HSub.bgI hn9 HSub.refl)), rfl, rfl⟩
end Go.Sx
