import Derived.Test.YtniphaoadhojlaaGreatDoorFx
import Derived.Test.YtniphaoadhojlaaGreatDoorSxP
import Derived.Test.YtniphaoadhojlaaGreatDoorW204
set_option linter.all false
namespace Go.Sx
open Go Go.Proofs Tryz
set_option maxRecDepth 100000

theorem tMulI {G : Base} {H R R2 : Heap} {b c v u : Nat} [hb : Rem H Bg b v R] [hc : Rem R Bg c u R2] (hu0 : u ≠ 0) (hu : u < B64) (hv9 : (wds v).length ≤ 1000) : SC G Tryz.prog 18 [.pointer (some ⟨b, 0, none⟩), .pointer (some ⟨b, 0, none⟩), .pointer (some ⟨c, 0, none⟩)] H (fun v' H' => v' = .pointer (some ⟨b, 0, none⟩) ∧ H' = Bg b (v * u) :: Bg c u :: R2) := by
  refine SC.out (sc_walk Tryz.func18 rfl Tryz.ntmps18 (by kernel_rfl) (Nat.le_of_ble_eq_true rfl) ?_)
  refine ws_ (wr_ (e_ asn (k:=on_ (qn_ (ws_ (wr_ (e_ mv (k:=e_ mv (k:=e_ mv (k:=?_))))))))))
  refine cp_ (vs:=[_,_,_,_]) rfl (tIntMul hu0 hu hv9) (k:=on_ (qn_ (ws_ (wr_ (e_ mv (k:=e_ asn (k:=on_ (qn_ (wt_ (rt_ Tryz.results18 (k:=?_)))))))))))
  exact ⟨_, HSub.refl, rfl, rfl⟩
theorem tNewInt {G : Base} {H : Heap} {x : Nat} (hx : x < 9223372036854775808) : SC G Tryz.prog 19 [.int .i64 (x : Int)] H (fun v' H' => ∃ b : Nat, v' = .pointer (some ⟨b, 0, none⟩) ∧ H' = Bg b x :: H) := by
  refine SC.out (sc_walk Tryz.func19 rfl Tryz.ntmps19 (by kernel_rfl) (Nat.le_of_ble_eq_true rfl) ?_)
  refine ws_ (wr_ (e_ asn (k:=on_ (qn_ (ws_ (wr_ (e_ mv (k:=?_))))))))
  refine e_ (ev_convL 18446744073709551616 rfl rfl rfl x rfl (by omega)) (k:=?_)
  refine e_ asn (k:=on_ (qn_ (ws_ (ws_ (wr_ (e_ mv (k:=e_ ilt (k:=on_ (qn_ (wi_ (k:=fun h1=>?_) (m:=fun h1=>?_)))))))))))
  · exfalso; have h9 := h1; omega -- DONE
  refine wk_ (qn_ (ws_ (wr_ (e_ asn (k:=on_ (qn_ (ws_ (ws_ (wr_ (e_ mv (k:=e_ ieq (k:=on_ (qn_ (?_))))))))))))))
  refine wi_ (k:=fun h2=>?_) (m:=fun h2=>?_)
  · obtain rfl : x = 0 := by have h9 := h2; omega
    refine wk_ (qn_ (ws_ (wr_ (e_ mv (k:=e_ ilt (k:=e_ mv (k:=e_ (bld [(0, _), (1, _)]) (k:=bxx (k:=fun b28=>?_)))))))))
    refine e_ asn (k:=on_ (qn_ (wt_ (rt_ Tryz.results19 (k:=?_)))))
    rw [show decide (((0 : Nat) : Int) < 0) = false from rfl]
    exact ⟨_, HSub.trans (H' := Vr b28 [.bool false, (SV.nil.up (wds 0).length).val] :: Row SV.nil eU [] :: H) (by rw [wds_zero]; exact HSub.keep (HSub.add (.inl ⟨rfl, rfl, rfl⟩) HSub.refl)) (HSub.bgI NW.nil HSub.refl), _, rfl, rfl⟩
  have hx0 : x ≠ 0 := by have h9 := h2; omega
  refine ws_ (wr_ (e_ mv (k:=of_ (k:=of_ (k:=of_ (k:=e_ pkf (k:=on_ (qn_ (iff_ (k:=wr_ (e_ mv (k:=?_))))))))))))
  refine s_ (st_buildU rfl) (k:=?_)
  rintro _ _ ⟨F, rfl, hF, hc, rfl⟩
  refine e_ asn (k:=on_ (qn_ (ws_ (wr_ (e_ mv (k:=e_ ilt (k:=e_ mv (k:=e_ (bld [(0, _), (1, _)]) (k:=bxx (k:=fun b28=>?_))))))))))
  refine e_ asn (k:=on_ (qn_ (wt_ (rt_ Tryz.results19 (k:=?_)))))
  have hn : NW F [x] x := ⟨hF, Wd.cons (by simp only [B64]; omega) Wd.nil, by rw [hc]; rfl, by rw [wds_one hx0 (by simp only [B64]; omega)]; rfl, by rw [wds_one hx0 (by simp only [B64]; omega), hc]; exact Nat.le_refl _⟩
  rw [show F.up 1 = F.up (wds x).length by rw [wds_one hx0 (by simp only [B64]; omega)]; rfl, show decide ((x : Int) < 0) = false from decide_eq_false (by omega)]
  exact ⟨_, HSub.bgI hn HSub.refl, _, rfl, rfl⟩
end Go.Sx
