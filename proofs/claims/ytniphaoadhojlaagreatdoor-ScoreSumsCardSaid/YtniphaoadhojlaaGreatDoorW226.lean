import Derived.Test.YtniphaoadhojlaaGreatDoorFx
import Derived.Test.YtniphaoadhojlaaGreatDoorSxP
import Derived.Test.YtniphaoadhojlaaGreatDoorW225
set_option linter.all false
namespace Go.Sx
open Go Go.Proofs Tryz
set_option maxRecDepth 100000

/-! ## The law ScoreSums -/
theorem addS_comm (a b : Nat) : addS a b = addS b a := by unfold addS; rw [Nat.add_comm]
theorem mulS_comm (a b : Nat) : mulS a b = mulS b a := by unfold mulS; rw [Nat.mul_comm]
theorem addS_lt (a b : Nat) : addS a b ≤ 9223372036854775808 := by unfold addS; omega
theorem mulS_lt (a b : Nat) : mulS a b ≤ 9223372036854775808 := by unfold mulS; omega
theorem low9 {a b : Nat} (ha : a < 2147483648) (hb : b < 2147483648) : addS a b = a + b ∧ mulS a b = a * b % 18446744073709551616 := by
  have h : a * b < 2147483648 * 2147483648 := Nat.mul_lt_mul'' ha hb
  unfold addS mulS
  generalize a * b = z at *
  omega
theorem low16 {a b : Nat} (h : mulS a b < 9223372036854775808) : a = 0 ∨ b = 0 ∨ (mulS a b = a * b % 18446744073709551616 ∧ mulS a b / a = b) := by
  rcases Nat.eq_zero_or_pos a with h0 | h0
  · exact .inl h0
  · have h1 : mulS a b = a * b ∧ a * b < 9223372036854775808 := by
      unfold mulS at h ⊢
      generalize a * b = z at *
      omega
    refine .inr (.inr ⟨by rw [h1.1, Nat.mod_eq_of_lt (by omega)], ?_⟩)
    rw [h1.1, Nat.mul_div_cancel_left _ h0]
theorem low17 {a b : Nat} (h : ¬ mulS a b < 9223372036854775808) : 0 < a ∧ 9223372036854775807 / a < b := by
  have h1 : 9223372036854775808 ≤ a * b := by
    unfold mulS at h
    generalize a * b = z at *
    omega
  have h0 : 0 < a := by
    rcases Nat.eq_zero_or_pos a with rfl | h0
    · rw [Nat.zero_mul] at h1; omega
    · exact h0
  refine ⟨h0, ?_⟩
  rw [Nat.div_lt_iff_lt_mul h0, Nat.mul_comm]
  omega
theorem bt9 {p q : Prop} [Decidable p] [Decidable q] (h : p ∧ q) : (decide p && decide q) = true := by simp [h.1, h.2]
theorem bt16 {p q r s : Prop} [Decidable p] [Decidable q] [Decidable r] [Decidable s] (h : p ∨ q ∨ (r ∧ s)) : (decide p || decide q || decide r && decide s) = true := by
  rcases h with h | h | ⟨h, h'⟩ <;> simp [*]
theorem lawSums {G : Base} {H : Heap} [hg : Glb G H] [ErrT G] [hb : BigG H] {a b c : Nat} (ha : a < 18446744073709551616) (hbl : b < 18446744073709551616) (hc : c < 18446744073709551616) : SC G Tryz.prog 3 [.int .u64 (a : Int), .int .u64 (b : Int), .int .u64 (c : Int)] H (fun v H' => v = .bool true ∧ H' = H) := by
  have s1 := addS_lt a b
  have s2 := mulS_lt a b
  have s3 := addS_lt b c
  refine SC.out (sc_walk Tryz.func3 rfl Tryz.ntmps3 (by kernel_rfl) (Nat.le_of_ble_eq_true rfl) ?_)
  refine ws_ (wr_ (e_ asn (k:=on_ (qn_ (ws_ (ws_ (wr_ (?_))))))))
  refine cp_ (vs:=[]) rfl (tFixed) (k:=e_ bnot (k:=on_ (qn_ (wi_ (k:=fun h1=>?_) (m:=fun h1=>?_)))))
  · cases h1 -- DONE
  refine wk_ (qn_ (ws_ (wr_ (e_ mv (k:=e_ mv (k:=?_))))))
  refine cp_ (vs:=[_,_]) rfl (tAddS ha hbl) (k:=e_ mv (k:=e_ mv (k:=?_)))
  refine cp_ (vs:=[_,_]) rfl (tMulS ha hbl) (k:=e_ asn (k:=e_ asn (k:=on_ (qn_ (ws_ (ws_ (wr_ (e_ mv (k:=e_ igt (k:=e_ mv (k:=sg_or 3 22 (k:=fun h2=>eg_ mv (k:=eg_ igt (k:=e_ pkf (k:=on_ (edq))))) (q:=e_ mv (k:=sg_or 6 29 (k:=fun h3=>eg_ mv (k:=eg_ mv (k:=eg_ mv (k:=cpg_ (vs:=[_,_]) (hc:=(tAddS hbl ha)) (k:=eg_ ine (k:=e_ pkf (k:=on_ (edq)))))))) (q:=?_))))))))))))))
  refine e_ mv (k:=sg_or 6 36 (k:=fun h4=>eg_ mv (k:=eg_ mv (k:=eg_ mv (k:=cpg_ (vs:=[_,_]) (hc:=(tMulS hbl ha)) (k:=eg_ ine (k:=e_ pkf (k:=on_ (edq)))))))) (q:=on_ (qn_ (wi_ (k:=fun h5=>?_) (m:=fun h5=>?_)))))
  · exfalso; have q1 := addS_comm a b; have q2 := mulS_comm a b; have q3 := h5; omega -- DONE
  refine wk_ (qn_ (ws_ (ws_ (wr_ (e_ mv (k:=e_ mv (k:=?_)))))))
  refine cp_ (vs:=[_,_]) rfl (tAddS (by omega) hc) (k:=e_ mv (k:=e_ mv (k:=e_ mv (k:=?_))))
  refine cp_ (vs:=[_,_]) rfl (tAddS hbl hc) (k:=?_)
  refine cp_ (vs:=[_,_]) rfl (tAddS ha (by omega)) (k:=e_ ine (k:=e_ mv (k:=sg_or 4 50 (k:=fun h6=>eg_ mv (k:=cpg_ (vs:=[_,_]) (hc:=(tMulS (b := 0) ha (by decide))) (k:=eg_ ine (k:=e_ pkf (k:=on_ (edq)))))) (q:=e_ mv (k:=sg_or 6 57 (k:=fun h7=>eg_ mv (k:=cpg_ (vs:=[_,_]) (hc:=(tMulS (b := 1) ha (by decide))) (k:=eg_ mv (k:=eg_ (ev_min rfl rfl) (k:=eg_ ine (k:=e_ pkf (k:=on_ (edq)))))))) (q:=e_ mv (k:=sg_or 6 64 (k:=fun h8=>eg_ mv (k:=cpg_ (vs:=[_,_]) (hc:=(tAddS (b := 0) ha (by decide))) (k:=eg_ mv (k:=eg_ (ev_min rfl rfl) (k:=eg_ ine (k:=e_ pkf (k:=on_ (edq)))))))) (q:=on_ (qn_ (wi_ (k:=fun h9=>?_) (m:=fun h9=>?_)))))))))))
  · exfalso; have q3 := h9; have q4 : mulS a 0 = 0 := by unfold mulS; rw [Nat.mul_zero]; rfl
    have q5 : mulS a 1 = min a 9223372036854775808 := by unfold mulS; rw [Nat.mul_one]
    unfold addS at q3
    omega -- DONE
  refine wk_ (qn_ (ws_ (ws_ (wr_ (e_ mv (k:=e_ ilt (k:=e_ mv (k:=sg_and 3 70 (k:=fun h10=>eg_ mv (k:=eg_ ilt (k:=e_ pkt (k:=on_ (edq))))) (q:=on_ (qn_ (wi_ (k:=fun h11=>?_) (m:=fun h11=>?_))))))))))))
  · have hs9 := h11
    refine ws_ (wr_ (e_ mv (k:=e_ mv (k:=e_ mv (k:=?_)))))
    refine e_ ((by first | exact ev_addL 18446744073709551616 rfl rfl rfl rfl _ _ rfl rfl (by omega) | exact ev_addM 18446744073709551616 rfl rfl rfl rfl _ _ rfl rfl)) (k:=?_)
    refine e_ ieq (k:=e_ mv (k:=sg_and 6 82 (k:=fun h12=>eg_ mv (k:=eg_ mv (k:=eg_ mv (k:=eg_ (ev_mulM 18446744073709551616 rfl rfl rfl rfl _ _ rfl rfl) (k:=eg_ ieq (k:=e_ pkt (k:=on_ (edq)))))))) (q:=e_ asn (k:=on_ (qn_ (wt_ (qr_ (rt_ Tryz.results3 (k:=?_)))))))))
    exact ⟨_, hsb, congrArg Value.bool (bt9 (by have q := low9 (a := a) (b := b) (by omega) (by omega); exact ⟨congrArg _ q.1, congrArg _ q.2⟩)), rfl⟩
  refine wk_ (qn_ (ws_ (ws_ (wr_ (e_ mv (k:=e_ ige (k:=e_ mv (k:=sg_or 3 88 (k:=fun h13=>eg_ mv (k:=eg_ ige (k:=e_ pkf (k:=on_ (edq))))) (q:=e_ mv (k:=sg_or 5 94 (k:=fun h14=>eg_ mv (k:=eg_ mv (k:=eg_ ((by first | exact ev_addL 18446744073709551616 rfl rfl rfl rfl _ _ rfl rfl (by omega) | exact ev_addM 18446744073709551616 rfl rfl rfl rfl _ _ rfl rfl)) (k:=eg_ ige (k:=e_ pkf (k:=on_ (edq))))))) (q:=on_ (qn_ (wi_ (k:=fun h15=>?_) (m:=fun h15=>?_))))))))))))))
  · refine ws_ (wr_ (e_ mv (k:=e_ ine (k:=on_ (qn_ (wi_ (k:=fun h16=>?_) (m:=fun h16=>?_)))))))
    · exfalso; have q := h16; unfold addS at q; omega -- DONE
    refine wk_ (qn_ (ws_ (ws_ (wr_ (e_ mv (k:=e_ ilt (k:=on_ (qn_ (wi_ (k:=fun h17=>?_) (m:=fun h17=>?_))))))))))
    · have hp := low16 (a := a) (b := b) (by have q := h17; omega)
      refine ws_ (wr_ (e_ mv (k:=e_ ieq (k:=e_ mv (k:=sg_or 3 109 (k:=fun h18=>eg_ mv (k:=eg_ ieq (k:=e_ pkf (k:=on_ (edq))))) (q:=e_ mv (k:=sg_or 13 123 (k:=fun h19=>eg_ mv (k:=eg_ mv (k:=eg_ mv (k:=eg_ (ev_mulM 18446744073709551616 rfl rfl rfl rfl _ _ rfl rfl) (k:=eg_ ieq (k:=eg_ mv (k:=sg_and 6 122 (k:=fun h20=>eg_ mv (k:=eg_ mv (k:=eg_ (ev_quo rfl rfl _ _ rfl rfl (by omega) (by first | decide | (show _ ≤ (18446744073709551615 : Int); omega))) (k:=eg_ mv (k:=eg_ ieq (k:=eg_ pkt (k:=on_ (edq)))))))) (q:=e_ pkf (k:=on_ (edq)))))))))) (q:=e_ asn (k:=on_ (qn_ (wt_ (qr_ (rt_ Tryz.results3 (k:=?_))))))))))))))
      exact ⟨_, hsb, congrArg Value.bool (bt16 (by rcases hp with q | q | ⟨q, q'⟩; exact .inl (by omega); exact .inr (.inl (by omega)); exact .inr (.inr ⟨congrArg _ q, congrArg _ q'⟩))), rfl⟩
    have hp := low17 (a := a) (b := b) (by have q := h17; omega)
    refine wk_ (qn_ (ws_ (wr_ (e_ mv (k:=e_ igt (k:=e_ mv (k:=sg_and 5 131 (k:=fun h21=>eg_ mv (k:=eg_ mv (k:=eg_ (ev_quo rfl rfl 9223372036854775807 _ rfl rfl (by omega) (by first | decide | (show _ ≤ (18446744073709551615 : Int); omega))) (k:=eg_ igt (k:=e_ pkt (k:=on_ (edq))))))) (q:=e_ asn (k:=on_ (qn_ (wt_ (rt_ Tryz.results3 (k:=?_)))))))))))))
    exact ⟨_, hsb, congrArg Value.bool (bt9 ⟨Int.ofNat_lt.2 hp.1, Int.ofNat_lt.2 hp.2⟩), rfl⟩
  refine ws_ (wr_ (e_ mv (k:=e_ mv (k:=e_ mv (k:=?_)))))
  refine e_ ((by first | exact ev_addL 18446744073709551616 rfl rfl rfl rfl _ _ rfl rfl (by omega) | exact ev_addM 18446744073709551616 rfl rfl rfl rfl _ _ rfl rfl)) (k:=?_)
  refine e_ ine (k:=on_ (qn_ (wi_ (k:=fun h22=>?_) (m:=fun h22=>?_))))
  · exfalso; have q := h22; unfold addS at q; omega -- DONE
  refine wk_ (qn_ (ws_ (ws_ (wr_ (e_ mv (k:=e_ ilt (k:=on_ (qn_ (wi_ (k:=fun h23=>?_) (m:=fun h23=>?_))))))))))
  · have hp := low16 (a := a) (b := b) (by have q := h23; omega)
    refine ws_ (wr_ (e_ mv (k:=e_ ieq (k:=e_ mv (k:=sg_or 3 109 (k:=fun h24=>eg_ mv (k:=eg_ ieq (k:=e_ pkf (k:=on_ (edq))))) (q:=e_ mv (k:=sg_or 13 123 (k:=fun h25=>eg_ mv (k:=eg_ mv (k:=eg_ mv (k:=eg_ (ev_mulM 18446744073709551616 rfl rfl rfl rfl _ _ rfl rfl) (k:=eg_ ieq (k:=eg_ mv (k:=sg_and 6 122 (k:=fun h26=>eg_ mv (k:=eg_ mv (k:=eg_ (ev_quo rfl rfl _ _ rfl rfl (by omega) (by first | decide | (show _ ≤ (18446744073709551615 : Int); omega))) (k:=eg_ mv (k:=eg_ ieq (k:=eg_ pkt (k:=on_ (edq)))))))) (q:=e_ pkf (k:=on_ (edq)))))))))) (q:=e_ asn (k:=on_ (qn_ (wt_ (qr_ (rt_ Tryz.results3 (k:=?_))))))))))))))
    exact ⟨_, hsb, congrArg Value.bool (bt16 (by rcases hp with q | q | ⟨q, q'⟩; exact .inl (by omega); exact .inr (.inl (by omega)); exact .inr (.inr ⟨congrArg _ q, congrArg _ q'⟩))), rfl⟩
  have hp := low17 (a := a) (b := b) (by have q := h23; omega)
  refine wk_ (qn_ (ws_ (wr_ (e_ mv (k:=e_ igt (k:=e_ mv (k:=sg_and 5 131 (k:=fun h27=>eg_ mv (k:=eg_ mv (k:=eg_ (ev_quo rfl rfl 9223372036854775807 _ rfl rfl (by omega) (by first | decide | (show _ ≤ (18446744073709551615 : Int); omega))) (k:=eg_ igt (k:=e_ pkt (k:=on_ (edq))))))) (q:=e_ asn (k:=on_ (qn_ (wt_ (rt_ Tryz.results3 (k:=?_)))))))))))))
  exact ⟨_, hsb, congrArg Value.bool (bt9 ⟨Int.ofNat_lt.2 hp.1, Int.ofNat_lt.2 hp.2⟩), rfl⟩
end Go.Sx
