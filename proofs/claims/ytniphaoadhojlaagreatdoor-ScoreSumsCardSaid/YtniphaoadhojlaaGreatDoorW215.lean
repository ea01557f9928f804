import Derived.Test.YtniphaoadhojlaaGreatDoorFx
import Derived.Test.YtniphaoadhojlaaGreatDoorSxP
import Derived.Test.YtniphaoadhojlaaGreatDoorW214
set_option linter.all false
namespace Go.Sx
open Go Go.Proofs Tryz
set_option maxRecDepth 100000

/-- The thresholds of math/big. -/
class BigG (H : Heap) : Prop where
  h27 : HasV H 27 [.int .i64 12]
  h28 : HasV H 28 [.int .i64 80]
instance BigG.tail {A : Hp} {H : Heap} [h : BigG H] : BigG (A :: H) := ⟨haveI := h.h27; inferInstance, haveI := h.h28; inferInstance⟩
theorem tSqrA {G : Base} {H R : Heap} {F : SV} {all : List Nat} {v : Nat} {q : Value} [hr : RemR H F eU all R] [hg : BigG R] (hn : NW F all v) (hv0 : v ≠ 0) (h11 : (wds v).length ≤ 11) : SC G Tryz.prog 66 [(F.up (wds v).length).val, q, (F.up (wds v).length).val] H (fun v' H' => ∃ (F' : SV) (all' : List Nat), v' = (F'.up (wds (v * v)).length).val ∧ NW F' all' (v * v) ∧ H' = Row F' eU all' :: R) := by
  by_cases h : v < B64
  · exact tSqr1 hn.fl hn.len hn.wd hn.src hv0 h
  · haveI := hg.h27
    haveI := hg.h28
    refine tSqrL hn ?_ h11
    rcases Nat.lt_or_ge (wds v).length 2 with h2 | h2
    · exfalso
      have := wv_lt (wds_wd v)
      rw [wv_wds] at this
      have h3 : B64 ^ (wds v).length ≤ B64 ^ 1 := Nat.pow_le_pow_right (by decide) (by omega)
      rw [Nat.pow_one] at h3
      omega
    · exact h2
theorem tIntSq {G : Base} {H R : Heap} {b v : Nat} [hb : Rem H Bg b v R] [hg : BigG R] (hv0 : v ≠ 0) (h11 : (wds v).length ≤ 11) : SC G Tryz.prog 42 [.pointer (some ⟨b, 0, none⟩), .pointer none, .pointer (some ⟨b, 0, none⟩), .pointer (some ⟨b, 0, none⟩)] H (fun v' H' => v' = .tuple #[] ∧ H' = Bg b (v * v) :: R) := by
  refine SC.lss (HSub.rem hb HSub.refl) ?_
  have hen : ∀ (q0 : Array Value) w, (callFunc 42 q0).run Tryz.prog w = .ok (.enter 42 q0) w := fun _ _ => by kernel_rfl
  refine sc_bg b hen fun F all hn => ?_
  refine SC.out (sc_walk Tryz.func42 rfl Tryz.ntmps42 (by kernel_rfl) (Nat.le_of_ble_eq_true rfl) ?_)
  refine ws_ (ws_ (wr_ (e_ mv (k:=e_ mv (k:=?_)))))
  refine e_ (ev_eql_ptr rfl rfl) (k:=?_)
  refine on_ (qn_ (wi_ (k:=fun h1=>?_) (m:=fun h1=>?_)))
  · refine ws_ (?_)
    refine w_draw Tryz_mixed (fun i => [10, 13].contains i) (fun k H => (k = 4 → HasV H b [.bool false, (F.up (wds v).length).val]) ∧ (k = 9 → HasV H b [.bool false, (F.up (wds v).length).val])) (af_ 0 (q:=Qv.of_ev fun H hH=>mv) (k:=af_ 1 (q:=Qv.of_ev fun H hH=>mv) (k:=af_ 2 (q:=Qv.of_ev fun H hH=>nck) (k:=af_ 3 (q:=Qv.of_ev fun H hH=>fla) (k:=?_)))))
    refine an_first 4 rfl rfl (by kernel_rfl) rfl (Qv.of_ev fun H hH=>by have hN := hH.1 rfl; exact ldv) (?_)
    refine af_ 5 (q:=Qv.of_ev fun H hH=>mv) (k:=af_ 6 (q:=Qv.of_ev fun H hH=>mv) (k:=af_ 7 (q:=Qv.of_ev fun H hH=>nck) (k:=af_ 8 (q:=Qv.of_ev fun H hH=>fla) (k:=?_))))
    refine an_first 9 rfl rfl (by kernel_rfl) rfl (Qv.of_ev fun H hH=>by have hN := hH.2 rfl; exact ldv) (?_)
    refine an_step 10 rfl (by kernel_rfl) rfl (fun k hk => ⟨fun hi => by subst hi; infer_instance, fun hi => by subst hi; infer_instance⟩) (st_call (vs := [_, _, _]) rfl (tSqrA hn hv0 h11)) ?_
    rintro _ _ ⟨F2, all2, rfl, hn2, rfl⟩
    refine af_ 11 (q:=Qv.of_ev fun H hH=>nck) (k:=af_ 12 (q:=Qv.of_ev fun H hH=>fla) (k:=?_))
    refine an_step 13 rfl (by kernel_rfl) rfl (fun k hk => ⟨fun hi => absurd hk (by subst hi; exact not_live (by kernel_rfl)), fun hi => absurd hk (by subst hi; exact not_live (by kernel_rfl))⟩) (st_store rfl rfl rfl) ?_
    rintro _ _ ⟨rfl, rfl⟩
    refine an_nil (by kernel_rfl) (fun k hk => ⟨fun hi => absurd hk (by subst hi; exact not_live (by kernel_rfl)), fun hi => absurd hk (by subst hi; exact not_live (by kernel_rfl))⟩) (qn_ (ws_ (wr_ (e_ mv (k:=e_ nck (k:=e_ fla (k:=sto (k:=on_ (qn_ (wt_ (qr_ (rt_ Tryz.results42 (k:=?_)))))))))))))
    exact ⟨_, HSub.bgI hn2 HSub.refl, rfl, rfl⟩
  exact absurd h1 (by decide) -- DONE
theorem tSqI {G : Base} {H R : Heap} {b v : Nat} [hb : Rem H Bg b v R] [hg : BigG R] (hv0 : v ≠ 0) (h11 : (wds v).length ≤ 11) : SC G Tryz.prog 18 [.pointer (some ⟨b, 0, none⟩), .pointer (some ⟨b, 0, none⟩), .pointer (some ⟨b, 0, none⟩)] H (fun v' H' => v' = .pointer (some ⟨b, 0, none⟩) ∧ H' = Bg b (v * v) :: R) := by
  refine SC.out (sc_walk Tryz.func18 rfl Tryz.ntmps18 (by kernel_rfl) (Nat.le_of_ble_eq_true rfl) ?_)
  refine ws_ (wr_ (e_ asn (k:=on_ (qn_ (ws_ (wr_ (e_ mv (k:=e_ mv (k:=e_ mv (k:=?_))))))))))
  refine cp_ (vs:=[_,_,_,_]) rfl (tIntSq hv0 h11) (k:=on_ (qn_ (ws_ (wr_ (e_ mv (k:=e_ asn (k:=on_ (qn_ (wt_ (rt_ Tryz.results18 (k:=?_)))))))))))
  exact ⟨_, HSub.refl, rfl, rfl⟩
theorem tLog {G : Base} {H : Heap} {x : Nat} [hg : BigG H] (hx0 : x ≠ 0) (hx : x ^ 128 < B64 ^ 11) (hxb : x < 18446744073709551616) : SC G Tryz.prog 9 [.int .u64 (x : Int)] H (fun v' H' => v' = .int .u64 ((bitLen (x ^ 256) - 1 : Nat) : Int) ∧ H' = H) := by
  have hxp : ∀ k, k ≤ 128 → (wds (x ^ k)).length ≤ 11 := fun k hk => wds_len 11 _ (Nat.lt_of_le_of_lt (Nat.pow_le_pow_right (by omega) hk) hx)
  have hx00 : ∀ k, x ^ k ≠ 0 := fun k h => by have := Nat.pow_pos (n := k) (Nat.pos_of_ne_zero hx0); omega
  have hlen : (wds (x ^ 256)).length ≤ 1000 := by
    have h1 : x ^ 256 < B64 ^ 22 := by
      rw [show x ^ 256 = x ^ 128 * x ^ 128 by rw [← Nat.pow_add], show B64 ^ 22 = B64 ^ 11 * B64 ^ 11 by rw [← Nat.pow_add]]
      exact Nat.mul_lt_mul'' hx hx
    have := wds_len 22 _ h1
    omega
  have hbl : bitLen (x ^ 256) ≠ 0 := fun h => by have := bitLen_lt (x ^ 256); rw [h] at this; have := hx00 256; omega
  have hbl9 : bitLen (x ^ 256) ≤ 9223372036854775807 := by
    obtain ⟨e, he⟩ : ∃ e : Nat, e = 16384 := ⟨_, rfl⟩
    rcases Nat.lt_or_ge (bitLen (x ^ 256)) (e + 1) with h | h
    · omega
    · exfalso
      have h1 := bitLen_le (hx00 256)
      have h2 : 2 ^ e ≤ 2 ^ (bitLen (x ^ 256) - 1) := Nat.pow_le_pow_right (by decide) (by omega)
      have h3 : x ^ 256 < B64 ^ 22 := by
        rw [show x ^ 256 = x ^ 128 * x ^ 128 by rw [← Nat.pow_add], show B64 ^ 22 = B64 ^ 11 * B64 ^ 11 by rw [← Nat.pow_add]]
        exact Nat.mul_lt_mul'' hx hx
      have h5 : ∀ f, f ≤ e → (2 : Nat) ^ f ≤ 2 ^ e := fun f hf => Nat.pow_le_pow_right (by decide) hf
      have h6 : ∀ n : Nat, B64 ^ n = 2 ^ (64 * n) := fun n => (Nat.pow_mul 2 64 n).symm
      obtain ⟨n, hn⟩ : ∃ n : Nat, n = 22 := ⟨_, rfl⟩
      have h4 : B64 ^ 22 ≤ 2 ^ e := by rw [← hn, h6 n]; exact h5 _ (by omega)
      exact absurd (Nat.lt_of_lt_of_le h3 (Nat.le_trans h4 (Nat.le_trans h2 h1))) (Nat.lt_irrefl _)
  refine SC.out (sc_walk Tryz.func9 rfl Tryz.ntmps9 (by kernel_rfl) (Nat.le_of_ble_eq_true rfl) ?_)
  refine ws_ (wr_ (e_ asn (k:=on_ (qn_ (ws_ (ws_ (wr_ (e_ mv (k:=e_ ieq (k:=on_ (qn_ (wi_ (k:=fun h1=>?_) (m:=fun h1=>?_)))))))))))))
  · exfalso; have h9 := h1; omega -- DONE
  refine wk_ (qn_ (ws_ (wr_ (alc (k:=fun b7=>?_)))))
  refine o_hsub (hs_bg0 (b := b7) HSub.refl) ?_
  refine e_ mv (k:=?_)
  refine cp_ (vs:=[_,_]) rfl (tSetU (v := 0) hxb) (k:=e_ asn (k:=on_ (qn_ (ws_ (ws_ (wr_ (e_ asn (k:=on_ (qn_ (wb_ (wl2_ (Nat × Nat) (fun y => y.1 ≤ 8 ∧ y.2 = 2 ^ y.1) (fun y => [(4, .int .i64 ((y.2 : Nat) : Int))]) [(3, _)] (fun y => [Bg b7 (x ^ y.2)]) H (fun y => 8 - y.1) ((0, 1)) (hh:=?_) (h0:=?_) (k:=?_))))))))))))
  · try dsimp only
    rw [Nat.pow_one]; exact HSub.refl
  · try dsimp only
    exact ⟨Nat.zero_le _, rfl⟩
  rintro ⟨k, n⟩ ⟨hk, hn2⟩
  try dsimp only [List.cons_append, List.nil_append] at *
  refine ws_ (ws_ (wr_ (e_ mv (k:=e_ ilt (k:=on_ (qn_ (wi_ (k:=fun h2=>?_) (m:=fun h2=>?_))))))))
  · have hk2 : k < 8 := by
      rcases Nat.lt_or_ge k 8 with h8 | h8
      · exact h8
      · exfalso
        have h9 := h2
        obtain rfl : k = 8 := by omega
        rw [hn2] at h9
        exact absurd h9 (by decide)
    have hp2 : n ≤ 128 := by rw [hn2]; exact Nat.pow_le_pow_right (by decide) (show k ≤ 7 by omega)
    have hsq : x ^ n * x ^ n = x ^ (2 * n) := by rw [← Nat.pow_add, Nat.two_mul]
    refine wk_ (qn_ (ws_ (wb_ (wr_ (e_ mv (k:=e_ mv (k:=e_ mv (k:=?_))))))))
    refine cp_ (vs:=[_,_,_]) rfl (tSqI (b := b7) (v := x ^ n) (hx00 _) (hxp _ hp2)) (k:=?_)
    rw [hsq]
    refine on_ (bn_ (qn_ (wr_ (e_ mv (k:=?_)))))
    refine e_ (evq iml (congrArg (Value.int .i64) (show _ = ((2 * n : Nat) : Int) from by omega))) (k:=?_)
    refine e_ asn (k:=on_ (?_))
    refine ln_ ((k + 1, 2 * n)) (h4:=?_) (k:=?_)
    · try dsimp only
      exact HSub.refl
    try dsimp only
    exact ⟨by omega, by rw [hn2, Nat.pow_succ, Nat.mul_comm]⟩
  have hk8 : n = 256 := by
    rcases Nat.lt_or_ge k 8 with h8 | h8
    · exfalso
      have h9 := h2
      have hp2 : n ≤ 128 := by rw [hn2]; exact Nat.pow_le_pow_right (by decide) (show k ≤ 7 by omega)
      omega
    · obtain rfl : k = 8 := by omega
      exact hn2
  subst hk8
  refine we_ (qe_ (le_ (bh_ (qn_ (ws_ (wr_ (e_ mv (k:=?_))))))))
  refine cp_ (vs:=[_]) rfl (tBitLen (v := x ^ 256) hlen) (k:=?_)
  refine e_ (evq isb (congrArg (Value.int .i64) (show _ = ((bitLen (x ^ 256) - 1 : Nat) : Int) from by omega))) (k:=?_)
  refine e_ (ev_convL 18446744073709551616 rfl rfl rfl (bitLen (x ^ 256) - 1) rfl (by omega)) (k:=?_)
  refine e_ asn (k:=on_ (qn_ (wt_ (rt_ Tryz.results9 (k:=?_)))))
  exact ⟨_, HSub.drop HSub.refl, rfl, rfl⟩
end Go.Sx
