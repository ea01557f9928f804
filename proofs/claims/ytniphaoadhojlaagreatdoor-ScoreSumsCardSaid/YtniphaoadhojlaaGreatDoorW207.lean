import Derived.Test.YtniphaoadhojlaaGreatDoorFx
import Derived.Test.YtniphaoadhojlaaGreatDoorSxP
import Derived.Test.YtniphaoadhojlaaGreatDoorW206
set_option linter.all false
namespace Go.Sx
open Go Go.Proofs Tryz
set_option maxRecDepth 100000

theorem hs_bg0 {H R H' : Heap} {b : Nat} [hr : Rem H Vr b [.bool false, .slice none 0 0] R] (h : HSub R H') : HSub H (Bg b 0 :: H') :=
  HSub.rem hr (HSub.trans (H' := Vr b [.bool false, (SV.nil.up (wds 0).length).val] :: Row SV.nil eU [] :: H') (by rw [wds_zero]; exact HSub.trans (HSub.keep h) (HSub.keep (HSub.add (A := Row SV.nil eU []) (.inl ⟨rfl, rfl, rfl⟩) HSub.refl))) (HSub.bgI NW.nil HSub.refl))
theorem tNSetU {G : Base} {H R : Heap} {F : SV} {all : List Nat} {n x : Nat} [hr : RemR H F eU all R] (hF : Full F) (hl : all.length = F.c) (hw : Wd all) (hx : x < B64) : SC G Tryz.prog 48 [(F.up n).val, .int .u64 (x : Int)] H (fun v H' => ∃ (F' : SV) (all' : List Nat), v = (F'.up (wds x).length).val ∧ NW F' all' x ∧ H' = Row F' eU all' :: R) := by
  refine SC.lss (HSub.remR hr HSub.refl) ?_
  refine SC.out (sc_walk Tryz.func48 rfl Tryz.ntmps48 (by kernel_rfl) (Nat.le_of_ble_eq_true rfl) ?_)
  refine ws_ (wr_ (e_ asn (k:=on_ (qn_ (ws_ (ws_ (wr_ (e_ mv (k:=e_ asn (k:=on_ (qn_ (ws_ (wr_ (?_))))))))))))))
  refine e_ mv (k:=e_ mv (k:=e_ ieq (k:=on_ (qn_ (wi_ (k:=fun h1=>?_) (m:=fun h1=>?_))))))
  · refine ws_ (wr_ (e_ mv (k:=e_ mv (k:=?_))))
    refine s_ (st_call (vs := [_, _]) rfl (tSetWord hF hl hw hx)) (k:=?_)
    rintro _ _ ⟨F2, all2, rfl, hn2, rfl⟩
    refine e_ asn (k:=on_ (qn_ (wt_ (qr_ (rt_ Tryz.results48 (k:=?_))))))
    exact ⟨_, hsb, F2, all2, rfl, hn2, rfl⟩
  exact absurd trivial h1 -- DONE
theorem tSetU {G : Base} {H R : Heap} {b v x : Nat} [hb : Rem H Bg b v R] (hx : x < B64) : SC G Tryz.prog 27 [.pointer (some ⟨b, 0, none⟩), .int .u64 (x : Int)] H (fun v' H' => v' = .pointer (some ⟨b, 0, none⟩) ∧ H' = Bg b x :: R) := by
  refine SC.lss (HSub.rem hb HSub.refl) ?_
  have hen : ∀ (q0 : Array Value) w, (callFunc 27 q0).run Tryz.prog w = .ok (.enter 27 q0) w := fun _ _ => by kernel_rfl
  refine sc_bg b hen fun F all hn => ?_
  refine SC.out (sc_walk Tryz.func27 rfl Tryz.ntmps27 (by kernel_rfl) (Nat.le_of_ble_eq_true rfl) ?_)
  refine ws_ (wr_ (e_ asn (k:=on_ (qn_ (ws_ (wr_ (e_ mv (k:=e_ mv (k:=e_ nck (k:=e_ fla (k:=e_ ldv (k:=e_ mv (k:=?_)))))))))))))
  refine s_ (st_call (vs := [_, _]) rfl (tNSetU hn.fl hn.len hn.wd hx)) (k:=?_)
  rintro _ _ ⟨F2, all2, rfl, hn2, rfl⟩
  refine e_ nck (k:=e_ fla (k:=sto (k:=on_ (qn_ (ws_ (wr_ (e_ mv (k:=e_ nck (k:=e_ fla (k:=sto (k:=on_ (qn_ (ws_ (?_))))))))))))))
  refine wr_ (e_ mv (k:=e_ asn (k:=on_ (qn_ (wt_ (rt_ Tryz.results27 (k:=?_)))))))
  exact ⟨_, HSub.bgI hn2 HSub.refl, rfl, rfl⟩
theorem tSign {G : Base} {H R : Heap} {b v : Nat} [hb : Rem H Bg b v R] : SC G Tryz.prog 23 [.pointer (some ⟨b, 0, none⟩)] H (fun v' H' => v' = .int .i64 (if v = 0 then 0 else 1) ∧ H' = Bg b v :: R) := by
  refine SC.lss (HSub.rem hb HSub.refl) ?_
  have hen : ∀ (q0 : Array Value) w, (callFunc 23 q0).run Tryz.prog w = .ok (.enter 23 q0) w := fun _ _ => by kernel_rfl
  refine sc_bg b hen fun F all hn => ?_
  haveI hz : Sl (Vr b [.bool false, (F.up (wds v).length).val] :: Row F eU all :: R) (F.up (wds v).length) eU (wds v) := hn.sl inferInstance
  refine SC.out (sc_walk Tryz.func23 rfl Tryz.ntmps23 (by kernel_rfl) (Nat.le_of_ble_eq_true rfl) ?_)
  refine ws_ (wr_ (e_ asn (k:=on_ (qn_ (ws_ (ws_ (wr_ (e_ mv (k:=e_ nck (k:=e_ fla (k:=e_ ldv (k:=e_ lnn (k:=e_ ieq (k:=?_))))))))))))))
  refine on_ (qn_ (wi_ (k:=fun h1=>?_) (m:=fun h1=>?_)))
  · have hv0 : v = 0 := wds_nil.1 (List.eq_nil_of_length_eq_zero (by have h9 := h1; omega))
    refine ws_ (wr_ (e_ asn (k:=on_ (qn_ (wt_ (qr_ (rt_ Tryz.results23 (k:=?_))))))))
    exact ⟨_, HSub.bgI hn HSub.refl, by rw [if_pos hv0]; rfl, rfl⟩
  have hv0 : v ≠ 0 := fun h => by have h9 := h1; rw [h, wds_zero] at h9; exact h9 rfl
  refine wk_ (qn_ (ws_ (ws_ (wr_ (e_ mv (k:=e_ nck (k:=e_ fla (k:=e_ ldv (k:=on_ (qn_ (wi_ (k:=fun h2=>?_) (m:=fun h2=>?_))))))))))))
  · exact absurd h2 (by decide) -- DONE
  refine wk_ (qn_ (ws_ (wr_ (e_ asn (k:=on_ (qn_ (wt_ (rt_ Tryz.results23 (k:=?_)))))))))
  exact ⟨_, HSub.bgI hn HSub.refl, by rw [if_neg hv0]; rfl, rfl⟩
theorem tLow64 {G : Base} {H : Heap} {s : SV} {v : Nat} [hs : Sl H s eU (wds v)] (hv : v < B64) : SC G Tryz.prog 47 [s.val] H (fun v' H' => v' = .int .u64 (v : Int) ∧ H' = H) := by
  refine SC.out (sc_walk Tryz.func47 rfl Tryz.ntmps47 (by kernel_rfl) (Nat.le_of_ble_eq_true rfl) ?_)
  refine ws_ (wr_ (e_ asn (k:=on_ (qn_ (ws_ (ws_ (wr_ (e_ mv (k:=e_ lnn (k:=e_ ieq (k:=on_ (qn_ (wi_ (k:=fun h1=>?_) (m:=fun h1=>?_))))))))))))))
  · have hv0 : v = 0 := wds_nil.1 (List.eq_nil_of_length_eq_zero (by have h9 := h1; omega))
    refine ws_ (wr_ (e_ asn (k:=on_ (qn_ (wt_ (qr_ (rt_ Tryz.results47 (k:=?_))))))))
    exact ⟨_, hsb, by rw [hv0]; rfl, rfl⟩
  have hv0 : v ≠ 0 := fun h => by have h9 := h1; rw [h, wds_zero] at h9; exact h9 rfl
  refine wk_ (qn_ (ws_ (wr_ (e_ mv (k:=e_ (ixa (i:=0)) (k:=e_ (lel (hy:=(show (wds v)[0]? = some v by rw [wds_one hv0 hv]; rfl))) (k:=e_ asn (k:=on_ (qn_ (ws_ (ws_ (wr_ (e_ mv (k:=?_))))))))))))))
  refine of_ (k:=of_ (k:=of_ (k:=e_ pkf (k:=on_ (qn_ (iff_ (k:=wk_ (qn_ (ws_ (wr_ (e_ mv (k:=e_ asn (k:=on_ (?_))))))))))))))
  refine qn_ (wt_ (rt_ Tryz.results47 (k:=?_)))
  exact ⟨_, hsb, rfl, rfl⟩
theorem tUint64 {G : Base} {H R : Heap} {b v : Nat} [hb : Rem H Bg b v R] (hv : v < B64) : SC G Tryz.prog 25 [.pointer (some ⟨b, 0, none⟩)] H (fun v' H' => v' = .int .u64 (v : Int) ∧ H' = Bg b v :: R) := by
  refine SC.lss (HSub.rem hb HSub.refl) ?_
  have hen : ∀ (q0 : Array Value) w, (callFunc 25 q0).run Tryz.prog w = .ok (.enter 25 q0) w := fun _ _ => by kernel_rfl
  refine sc_bg b hen fun F all hn => ?_
  refine SC.out (sc_walk Tryz.func25 rfl Tryz.ntmps25 (by kernel_rfl) (Nat.le_of_ble_eq_true rfl) ?_)
  refine ws_ (wr_ (e_ asn (k:=on_ (qn_ (ws_ (wr_ (e_ mv (k:=e_ nck (k:=e_ fla (k:=e_ ldv (k:=?_)))))))))))
  refine cp_ (vs:=[_]) rfl (tLow64 (hs := hn.sl inferInstance) hv) (k:=e_ asn (k:=on_ (qn_ (wt_ (rt_ Tryz.results25 (k:=?_))))))
  exact ⟨_, HSub.bgI hn HSub.refl, rfl, rfl⟩
theorem bl_ext {x z : Nat} (h : ∀ m, x < 2 ^ m ↔ z < 2 ^ m) : bitLen x = bitLen z := by
  rcases Nat.eq_zero_or_pos x with rfl | hx
  · have : z = 0 := by have := (h 0).1 (by decide); omega
    rw [this]
  · have hz : z ≠ 0 := fun h0 => by have := (h 0).2 (by rw [h0]; decide); omega
    have h1 := bitLen_lt x
    have h2 := bitLen_lt z
    have h3 := bitLen_le (n := x) (by omega)
    have h4 := bitLen_le hz
    have h5 := (h _).2 h2
    have h6 := (h _).1 h1
    have e1 : bitLen x - 1 < bitLen z := (Nat.pow_lt_pow_iff_right (by decide : 1 < 2)).1 (Nat.lt_of_le_of_lt h3 h5)
    have e2 : bitLen z - 1 < bitLen x := (Nat.pow_lt_pow_iff_right (by decide : 1 < 2)).1 (Nat.lt_of_le_of_lt h4 h6)
    omega
theorem bl_or {a b : Nat} (h : b ≤ a) : bitLen (a ||| b) = bitLen a := bl_ext fun m => ⟨fun h1 => Nat.lt_of_le_of_lt Nat.left_le_or h1, fun h1 => Nat.or_lt_two_pow h1 (Nat.lt_of_le_of_lt h h1)⟩
theorem or_b64 {a b : Nat} (ha : a < B64) (hb : b < B64) : a ||| b < B64 := Nat.or_lt_two_pow (n := 64) ha hb
theorem bl_wds : ∀ {x : Nat}, x ≠ 0 → ∃ top, (wds x)[(wds x).length - 1]? = some top ∧ top < B64 ∧ bitLen x = ((wds x).length - 1) * 64 + bitLen top := by
  intro x
  induction x using Nat.strongRecOn with
  | _ x ih =>
    intro h0
    by_cases h1 : x < B64
    · exact ⟨x, by rw [wds_one h0 h1]; rfl, h1, by rw [wds_one h0 h1]; simp⟩
    · have h2 : x / B64 ≠ 0 := by simp only [B64] at *; omega
      obtain ⟨top, q1, q2, q3⟩ := ih (x / B64) (Nat.div_lt_self (Nat.pos_of_ne_zero h0) (by decide)) h2
      have hp : 0 < (wds (x / B64)).length := by
        rcases Nat.eq_zero_or_pos (wds (x / B64)).length with h | h
        · exact absurd (wds_nil.1 (List.eq_nil_of_length_eq_zero h)) h2
        · exact h
      refine ⟨top, ?_, q2, ?_⟩
      · rw [wds_pos h0, List.length_cons, Nat.add_sub_cancel]
        obtain ⟨k, hk⟩ : ∃ k, (wds (x / B64)).length = k + 1 := ⟨(wds (x / B64)).length - 1, by omega⟩
        rw [hk, Nat.add_sub_cancel] at q1
        rw [hk, List.getElem?_cons_succ]; exact q1
      · have := bl_shift x 64 (by simp only [B64] at h1; omega)
        rw [this, show (2 : Nat) ^ 64 = B64 from rfl, q3, wds_pos h0, List.length_cons]
        omega
theorem tNBitLen {G : Base} {H : Heap} {s : SV} {v : Nat} [hs : Sl H s eU (wds v)] (hv9 : (wds v).length ≤ 1000) : SC G Tryz.prog 46 [s.val] H (fun v' H' => v' = .int .i64 ((bitLen v : Nat) : Int) ∧ H' = H) := by
  refine SC.out (sc_walk Tryz.func46 rfl Tryz.ntmps46 (by kernel_rfl) (Nat.le_of_ble_eq_true rfl) ?_)
  refine ws_ (wr_ (e_ asn (k:=on_ (qn_ (ws_ (ws_ (wr_ (e_ mv (k:=e_ lnn (k:=e_ isb (k:=e_ asn (k:=on_ (qn_ (?_))))))))))))))
  refine ws_ (wr_ (e_ mv (k:=e_ ige (k:=on_ (qn_ (wi_ (k:=fun h1=>?_) (m:=fun h1=>?_)))))))
  · have hlp : 0 < (wds v).length := by have h9 := h1; omega
    have hv0 : v ≠ 0 := fun h => by rw [h, wds_zero] at hlp; exact absurd hlp (by decide)
    obtain ⟨top, q1, q2, q3⟩ := bl_wds hv0
    have q2' : top < 18446744073709551616 := q2
    refine ws_ (wr_ (e_ mv (k:=e_ mv (k:=e_ (ixa (i := (wds v).length - 1) (hj := by omega)) (k:=e_ (lel (hy:=q1)) (k:=e_ asn (k:=on_ (qn_ (ws_ (wr_ (e_ mv (k:=e_ mv (k:=?_)))))))))))))
    refine e_ (ev_shru rfl rfl _ 1 rfl rfl (by first | decide | (show _ ≤ 64; omega))) (k:=?_)
    refine e_ (ev_orM 18446744073709551616 rfl rfl rfl rfl _ _ rfl rfl q2 (by have := Nat.div_le_self top (2 ^ 1); omega)) (k:=?_)
    refine e_ asn (k:=on_ (qn_ (ws_ (wr_ (?_)))))
    obtain ⟨a1, ha1, hb1⟩ : ∃ a1, a1 = (top ||| top / 2 ^ 1) ∧ bitLen a1 = bitLen top := ⟨_, rfl, bl_or (Nat.div_le_self _ _)⟩
    have hc1 : a1 < 18446744073709551616 := by rw [ha1]; exact or_b64 q2 (Nat.lt_of_le_of_lt (Nat.div_le_self _ _) q2)
    rw [← ha1]
    refine e_ mv (k:=e_ mv (k:=?_))
    refine e_ (ev_shru rfl rfl _ 2 rfl rfl (by first | decide | (show _ ≤ 64; omega))) (k:=?_)
    refine e_ (ev_orM 18446744073709551616 rfl rfl rfl rfl _ _ rfl rfl hc1 (by have := Nat.div_le_self a1 (2 ^ 2); omega)) (k:=?_)
    refine e_ asn (k:=on_ (qn_ (ws_ (wr_ (?_)))))
    obtain ⟨a2, ha2, hb2⟩ : ∃ a2, a2 = (a1 ||| a1 / 2 ^ 2) ∧ bitLen a2 = bitLen a1 := ⟨_, rfl, bl_or (Nat.div_le_self _ _)⟩
    have hc2 : a2 < 18446744073709551616 := by rw [ha2]; exact or_b64 hc1 (Nat.lt_of_le_of_lt (Nat.div_le_self _ _) hc1)
    rw [← ha2]
    refine e_ mv (k:=e_ mv (k:=?_))
    refine e_ (ev_shru rfl rfl _ 4 rfl rfl (by first | decide | (show _ ≤ 64; omega))) (k:=?_)
    refine e_ (ev_orM 18446744073709551616 rfl rfl rfl rfl _ _ rfl rfl hc2 (by have := Nat.div_le_self a2 (2 ^ 4); omega)) (k:=?_)
    refine e_ asn (k:=on_ (qn_ (ws_ (wr_ (?_)))))
    obtain ⟨a3, ha3, hb3⟩ : ∃ a3, a3 = (a2 ||| a2 / 2 ^ 4) ∧ bitLen a3 = bitLen a2 := ⟨_, rfl, bl_or (Nat.div_le_self _ _)⟩
    have hc3 : a3 < 18446744073709551616 := by rw [ha3]; exact or_b64 hc2 (Nat.lt_of_le_of_lt (Nat.div_le_self _ _) hc2)
    rw [← ha3]
    refine e_ mv (k:=e_ mv (k:=?_))
    refine e_ (ev_shru rfl rfl _ 8 rfl rfl (by first | decide | (show _ ≤ 64; omega))) (k:=?_)
    refine e_ (ev_orM 18446744073709551616 rfl rfl rfl rfl _ _ rfl rfl hc3 (by have := Nat.div_le_self a3 (2 ^ 8); omega)) (k:=?_)
    refine e_ asn (k:=on_ (qn_ (ws_ (wr_ (?_)))))
    obtain ⟨a4, ha4, hb4⟩ : ∃ a4, a4 = (a3 ||| a3 / 2 ^ 8) ∧ bitLen a4 = bitLen a3 := ⟨_, rfl, bl_or (Nat.div_le_self _ _)⟩
    have hc4 : a4 < 18446744073709551616 := by rw [ha4]; exact or_b64 hc3 (Nat.lt_of_le_of_lt (Nat.div_le_self _ _) hc3)
    rw [← ha4]
    refine e_ mv (k:=e_ mv (k:=?_))
    refine e_ (ev_shru rfl rfl _ 16 rfl rfl (by first | decide | (show _ ≤ 64; omega))) (k:=?_)
    refine e_ (ev_orM 18446744073709551616 rfl rfl rfl rfl _ _ rfl rfl hc4 (by have := Nat.div_le_self a4 (2 ^ 16); omega)) (k:=?_)
    refine e_ asn (k:=on_ (qn_ (ws_ (wr_ (?_)))))
    obtain ⟨a5, ha5, hb5⟩ : ∃ a5, a5 = (a4 ||| a4 / 2 ^ 16) ∧ bitLen a5 = bitLen a4 := ⟨_, rfl, bl_or (Nat.div_le_self _ _)⟩
    have hc5 : a5 < 18446744073709551616 := by rw [ha5]; exact or_b64 hc4 (Nat.lt_of_le_of_lt (Nat.div_le_self _ _) hc4)
    have hd5 : a5 / 2 ^ 16 / 2 ^ 16 ≤ a5 := Nat.le_trans (Nat.div_le_self _ _) (Nat.div_le_self _ _)
    rw [← ha5]
    refine e_ mv (k:=e_ mv (k:=?_))
    refine e_ (ev_shru rfl rfl _ 16 rfl rfl (by first | decide | (show _ ≤ 64; omega))) (k:=?_)
    refine e_ (ev_shru rfl rfl _ 16 rfl rfl (by first | decide | (show _ ≤ 64; omega))) (k:=?_)
    refine e_ (ev_orM 18446744073709551616 rfl rfl rfl rfl _ _ rfl rfl hc5 (by omega)) (k:=?_)
    refine e_ asn (k:=on_ (qn_ (ws_ (wr_ (?_)))))
    obtain ⟨a6, ha6, hb6⟩ : ∃ a6, a6 = (a5 ||| a5 / 2 ^ 16 / 2 ^ 16) ∧ bitLen a6 = bitLen a5 := ⟨_, rfl, bl_or hd5⟩
    have hc6 : a6 < 18446744073709551616 := by rw [ha6]; exact or_b64 hc5 (Nat.lt_of_le_of_lt hd5 hc5)
    have hb9 : bitLen top ≤ 64 := by
      rcases Nat.eq_zero_or_pos top with h | h
      · rw [h]; decide
      · have := bitLen_le (n := top) (by omega)
        have h7 : 2 ^ (bitLen top - 1) < 2 ^ 64 := Nat.lt_of_le_of_lt this q2'
        have := (Nat.pow_lt_pow_iff_right (by decide : 1 < 2)).1 h7
        omega
    rw [← ha6]
    refine e_ mv (k:=e_ iml (k:=e_ mv (k:=?_)))
    refine cp_ (vs:=[_]) rfl (tLen hc6) (k:=?_)
    rw [hb6, hb5, hb4, hb3, hb2, hb1]
    refine e_ iad (k:=e_ asn (k:=on_ (qn_ (wt_ (qr_ (rt_ Tryz.results46 (k:=?_)))))))
    exact ⟨_, hsb, congrArg (Value.int .i64) (by rw [q3]; omega), rfl⟩
  have hv0 : v = 0 := wds_nil.1 (List.eq_nil_of_length_eq_zero (by have h9 := h1; omega))
  refine wk_ (qn_ (ws_ (wr_ (e_ asn (k:=on_ (qn_ (wt_ (rt_ Tryz.results46 (k:=?_)))))))))
  exact ⟨_, hsb, by rw [hv0]; rfl, rfl⟩
theorem tBitLen {G : Base} {H R : Heap} {b v : Nat} [hb : Rem H Bg b v R] (hv9 : (wds v).length ≤ 1000) : SC G Tryz.prog 24 [.pointer (some ⟨b, 0, none⟩)] H (fun v' H' => v' = .int .i64 ((bitLen v : Nat) : Int) ∧ H' = Bg b v :: R) := by
  refine SC.lss (HSub.rem hb HSub.refl) ?_
  have hen : ∀ (q0 : Array Value) w, (callFunc 24 q0).run Tryz.prog w = .ok (.enter 24 q0) w := fun _ _ => by kernel_rfl
  refine sc_bg b hen fun F all hn => ?_
  refine SC.out (sc_walk Tryz.func24 rfl Tryz.ntmps24 (by kernel_rfl) (Nat.le_of_ble_eq_true rfl) ?_)
  refine ws_ (wr_ (e_ asn (k:=on_ (qn_ (ws_ (wr_ (e_ mv (k:=e_ nck (k:=e_ fla (k:=e_ ldv (k:=?_)))))))))))
  refine cp_ (vs:=[_]) rfl (tNBitLen (hs := hn.sl inferInstance) hv9) (k:=e_ asn (k:=on_ (qn_ (wt_ (rt_ Tryz.results24 (k:=?_))))))
  exact ⟨_, HSub.bgI hn HSub.refl, rfl, rfl⟩
end Go.Sx
