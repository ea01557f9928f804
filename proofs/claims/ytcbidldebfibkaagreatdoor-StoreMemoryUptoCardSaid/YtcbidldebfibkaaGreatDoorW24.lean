import Derived.Test.YtcbidldebfibkaaGreatDoorW22
set_option linter.unusedVariables false
set_option linter.unusedSimpArgs false
set_option linter.unusedSectionVars false
set_option linter.unnecessarySimpa false
namespace Go.Sx
open Go Go.Proofs
set_option maxRecDepth 100000
set_option linter.unusedSimpArgs false
set_option linter.unusedVariables false

/-! ## The references' writers -/
theorem SC.less {G : Base} {P : Program} {f : FuncId} {args : List Value} {K : Value → Heap → Prop} {H H' : Heap} (hs : HSub H H') (h : SC G P f args H' K) : SC G P f args H K := h.heap fun w hw => hs.sat hw

theorem refUv {G : Base} {H R : Heap} {s : SV} {xs : List Nat} {iv : Int} [hr : RemR H s eB xs R] (x : Nat) (hi : iv = ((x : Nat) : Int)) (hx : x < 9223372036854775808) (hn : xs.length ≤ 1000000000000) : SC G Tryz.prog 32 [s.val, .int .i64 iv] H (fun v H' => ∃ s' : SV, v = s'.val ∧ H' = Row s' eB (xs ++ uv x) :: R) := by
  subst hi
  refine SC.less (HSub.remR hr Ka) ?_
  have hl := uv_len10 (n := x) (by omega)
  refine SC.out (sc_walk Tryz.func32 rfl Tryz.ntmps32 (by kernel_rfl) (Nat.le_of_ble_eq_true rfl) ?_)
  refine w_seq (w_region (?_))
  refine o_ev (ev_assign rfl) rfl ?_
  refine o_nil (sq_n (w_seq (w_block (?_))))
  refine w_loop (SV × Nat × List Nat) (fun y => y.2.2 ++ uv y.2.1 = xs ++ uv x ∧ y.2.1 < 9223372036854775808) (fun y => [(0, y.1.val), (1, .int .i64 ((y.2.1 : Nat) : Int))]) (fun y => Row y.1 eB y.2.2 :: R) (fun y => y.2.1) ((s, x, xs)) ?_ ?_ ?_ ?_
  · (try dsimp only)
    exact ⟨rfl, hx⟩
  · repeat (first | exact Sub.nil | refine Sub.cons rfl ?_)
  · (try dsimp only)
    (repeat (first | exact Ka | refine Kb ?_ | refine Kc ?_ | refine Kf ?_ | refine Kd ?_ | refine Ke ?_ | refine Kh ?_ | refine Kg rfl ?_ | refine Ki ?_ | refine Kj ?_ | refine Kk ?_ | refine Kl ?_ | refine Km ?_ | refine Kn ?_ | refine Ko ?_))
  · rintro ⟨s, n, zs⟩ ⟨hI, hnb⟩
    (try dsimp only at *)
    have hlen := congrArg List.length hI
    have hpos := uv_pos n
    simp only [List.length_append] at hlen
    refine w_seq (w_seq (w_region (?_)))
    refine o_ev (ev_move rfl) rfl ?_
    refine o_ev (ev_geq rfl rfl) rfl ?_
    refine o_nil (sq_n (?_))
    refine w_if rfl (fun h1 => ?_) (fun h1 => ?_)
    · skip
      try simp only [Za, Zb, Zc, Zd, Ze, Zf, Zg, Zh] at h1
      skip
      refine w_skip (sq_n (w_block (w_seq (w_region (?_)))))
      refine o_ev (ev_move rfl) rfl ?_
      refine o_ev (ev_move rfl) rfl ?_
      refine o_ev (ev_rem rfl rfl n 128 rfl rfl (by omega)) rfl ?_
      refine o_ev (ev_add rfl rfl (by omega)) rfl ?_
      refine o_ev (ev_convL 256 rfl rfl rfl (n % 128 + 128) (by omega) (by omega)) rfl ?_
      refine o_st (st_build1 eB rfl rfl) rfl ?_
      rintro _ _ ⟨s1, rfl, rfl⟩
      refine o_st (st_append rfl rfl rfl rfl (by simp only [List.length_cons, List.length_nil]; omega) (by simp only [List.length_cons, List.length_nil]; omega)) rfl ?_
      rintro _ _ ⟨s2, rfl, rfl⟩
      refine o_ev (ev_assign rfl) rfl ?_
      refine o_nil (sq_n (w_region (?_)))
      refine o_ev (ev_move rfl) rfl ?_
      refine o_ev (ev_quo rfl rfl n 128 rfl rfl (by omega) (by show _ ≤ (9223372036854775807 : Int); omega)) rfl ?_
      refine o_ev (ev_assign rfl) rfl ?_
      refine o_nil (bk_n (?_))
      skip
      refine lq_n ((s2, n / 128, zs ++ [n % 128 + 128])) ?_ ?_ ?_ ?_
      · (try dsimp only)
        refine ⟨?_, by omega⟩
        rw [← hI, uv_big (n := n) (by omega)]
        simp
      · (try dsimp only)
        omega
      · repeat (first | exact Sub.nil | refine Sub.cons rfl ?_)
      · (try dsimp only)
        (repeat (first | exact Ka | refine Kb ?_ | refine Kc ?_ | refine Kf ?_ | refine Kd ?_ | refine Ke ?_ | refine Kh ?_ | refine Kg rfl ?_ | refine Ki ?_ | refine Kj ?_ | refine Kk ?_ | refine Kl ?_ | refine Km ?_ | refine Kn ?_ | refine Ko ?_))
    · skip
      try simp only [Za, Zb, Zc, Zd, Ze, Zf, Zg, Zh] at h1
      have e : zs ++ [n] = xs ++ uv x := by rw [← hI, uv_small (by omega)]
      refine w_exit (sq_e (lq_e (bk_h (sq_n (w_seq (w_region (?_)))))))
      refine o_ev (ev_move rfl) rfl ?_
      refine o_ev (ev_move rfl) rfl ?_
      refine o_ev (ev_convL 256 rfl rfl rfl n rfl (by omega)) rfl ?_
      refine o_st (st_build1 eB rfl rfl) rfl ?_
      rintro _ _ ⟨s2, rfl, rfl⟩
      refine o_st (st_append rfl rfl rfl rfl (by simp only [List.length_cons, List.length_nil]; omega) (by simp only [List.length_cons, List.length_nil]; omega)) rfl ?_
      rintro _ _ ⟨s2, rfl, rfl⟩
      refine o_ev (ev_assign rfl) rfl ?_
      refine o_nil (sq_n (w_ret (?_)))
      refine res_intro (vs := [_]) Tryz.results32 (.inr rfl) (.cons (.tmp rfl) (.nil)) ?_
      exact ⟨_, by rw [e]; (repeat (first | exact Ka | refine Kb ?_ | refine Kc ?_ | refine Kf ?_ | refine Kd ?_ | refine Ke ?_ | refine Kh ?_ | refine Kg rfl ?_ | refine Ki ?_ | refine Kj ?_ | refine Kk ?_ | refine Kl ?_ | refine Km ?_ | refine Kn ?_ | refine Ko ?_)), s2, rfl, rfl⟩
theorem refUvN {G : Base} {H : Heap} {iv : Int} (x : Nat) (hi : iv = ((x : Nat) : Int)) (hx : x < 9223372036854775808) : SC G Tryz.prog 32 [SV.nil.val, .int .i64 iv] H (fun v H' => ∃ s' : SV, v = s'.val ∧ H' = Row s' eB (uv x) :: H) :=
  SC.less (H' := Row SV.nil eB [] :: H) (Ki Ka) (refUv (s := SV.nil) (xs := []) (R := H) x hi hx (by simp))

theorem refUv2 {G : Base} {H : Heap} (x : Nat) (hx : x < 18446744073709551616) : SC G Tryz.prog 67 [.int .u64 ((x : Nat) : Int)] H (fun v H' => ∃ s' : SV, v = s'.val ∧ H' = Row s' eB (uv x) :: H) := by
  have hl := uv_len10 hx
  refine SC.out (sc_walk Tryz.func67 rfl Tryz.ntmps67 (by kernel_rfl) (Nat.le_of_ble_eq_true rfl) ?_)
  refine w_seq (w_region (?_))
  refine o_ev (ev_assign rfl) rfl ?_
  refine o_nil (sq_n (w_seq (w_region (?_))))
  refine o_ev (ev_assign rfl) rfl ?_
  refine o_nil (sq_n (w_seq (w_block (?_))))
  refine w_loop (SV × Nat × List Nat) (fun y => y.2.2 ++ uv y.2.1 = uv x ∧ y.2.1 < 18446744073709551616) (fun y => [(0, .int .u64 ((y.2.1 : Nat) : Int)), (3, y.1.val)]) (fun y => Row y.1 eB y.2.2 :: H) (fun y => y.2.1) ((SV.nil, x, [])) ?_ ?_ ?_ ?_
  · (try dsimp only)
    exact ⟨rfl, hx⟩
  · repeat (first | exact Sub.nil | refine Sub.cons rfl ?_)
  · (try dsimp only)
    (repeat (first | exact Ka | refine Kb ?_ | refine Kc ?_ | refine Kf ?_ | refine Kd ?_ | refine Ke ?_ | refine Kh ?_ | refine Kg rfl ?_ | refine Ki ?_ | refine Kj ?_ | refine Kk ?_ | refine Kl ?_ | refine Km ?_ | refine Kn ?_ | refine Ko ?_))
  · rintro ⟨s, n, zs⟩ ⟨hI, hnb⟩
    (try dsimp only at *)
    have hlen := congrArg List.length hI
    have hpos := uv_pos n
    simp only [List.length_append] at hlen
    refine w_seq (w_seq (w_region (?_)))
    refine o_ev (ev_move rfl) rfl ?_
    refine o_ev (ev_gtr rfl rfl) rfl ?_
    refine o_nil (sq_n (?_))
    refine w_if rfl (fun h1 => ?_) (fun h1 => ?_)
    · skip
      try simp only [Za, Zb, Zc, Zd, Ze, Zf, Zg, Zh] at h1
      skip
      refine w_skip (sq_n (w_block (w_seq (w_region (?_)))))
      refine o_ev (ev_move rfl) rfl ?_
      refine o_ev (ev_move rfl) rfl ?_
      refine o_ev (ev_rem rfl rfl n 128 rfl rfl (by omega)) rfl ?_
      refine o_ev (ev_addL 18446744073709551616 rfl rfl rfl rfl (n % 128) 128 rfl rfl (by omega)) rfl ?_
      refine o_ev (ev_convL 256 rfl rfl rfl (n % 128 + 128) (by omega) (by omega)) rfl ?_
      refine o_st (st_build1 eB rfl rfl) rfl ?_
      rintro _ _ ⟨s1, rfl, rfl⟩
      refine o_st (st_append rfl rfl rfl rfl (by simp only [List.length_cons, List.length_nil]; omega) (by simp only [List.length_cons, List.length_nil]; omega)) rfl ?_
      rintro _ _ ⟨s2, rfl, rfl⟩
      refine o_ev (ev_assign rfl) rfl ?_
      refine o_nil (sq_n (w_region (?_)))
      refine o_ev (ev_move rfl) rfl ?_
      refine o_ev (ev_quo rfl rfl n 128 rfl rfl (by omega) (by show _ ≤ (18446744073709551615 : Int); omega)) rfl ?_
      refine o_ev (ev_assign rfl) rfl ?_
      refine o_nil (bk_n (?_))
      skip
      refine lq_n ((s2, n / 128, zs ++ [n % 128 + 128])) ?_ ?_ ?_ ?_
      · (try dsimp only)
        refine ⟨?_, by omega⟩
        rw [← hI, uv_big (n := n) (by omega)]
        simp
      · (try dsimp only)
        omega
      · repeat (first | exact Sub.nil | refine Sub.cons rfl ?_)
      · (try dsimp only)
        (repeat (first | exact Ka | refine Kb ?_ | refine Kc ?_ | refine Kf ?_ | refine Kd ?_ | refine Ke ?_ | refine Kh ?_ | refine Kg rfl ?_ | refine Ki ?_ | refine Kj ?_ | refine Kk ?_ | refine Kl ?_ | refine Km ?_ | refine Kn ?_ | refine Ko ?_))
    · skip
      try simp only [Za, Zb, Zc, Zd, Ze, Zf, Zg, Zh] at h1
      have e : zs ++ [n] = uv x := by rw [← hI, uv_small (by omega)]
      refine w_exit (sq_e (lq_e (bk_h (sq_n (w_seq (w_region (?_)))))))
      refine o_ev (ev_move rfl) rfl ?_
      refine o_ev (ev_move rfl) rfl ?_
      refine o_ev (ev_convL 256 rfl rfl rfl n rfl (by omega)) rfl ?_
      refine o_st (st_build1 eB rfl rfl) rfl ?_
      rintro _ _ ⟨s2, rfl, rfl⟩
      refine o_st (st_append rfl rfl rfl rfl (by simp only [List.length_cons, List.length_nil]; omega) (by simp only [List.length_cons, List.length_nil]; omega)) rfl ?_
      rintro _ _ ⟨s2, rfl, rfl⟩
      refine o_ev (ev_assign rfl) rfl ?_
      refine o_nil (sq_n (w_ret (?_)))
      refine res_intro (vs := [_]) Tryz.results67 (.inr rfl) (.cons (.tmp rfl) (.nil)) ?_
      exact ⟨_, by rw [e]; (repeat (first | exact Ka | refine Kb ?_ | refine Kc ?_ | refine Kf ?_ | refine Kd ?_ | refine Ke ?_ | refine Kh ?_ | refine Kg rfl ?_ | refine Ki ?_ | refine Kj ?_ | refine Kk ?_ | refine Kl ?_ | refine Km ?_ | refine Kn ?_ | refine Ko ?_)), s2, rfl, rfl⟩

theorem refUv1 {G : Base} {H : Heap} (x : Nat) (hx : x < 18446744073709551616) : SC G Tryz.prog 65 [.int .u64 ((x : Nat) : Int)] H (fun v H' => ∃ s' : SV, v = s'.val ∧ H' = Row s' eB (uv x) :: H) := by
  have hl := uv_len10 hx
  refine SC.out (sc_walk Tryz.func65 rfl Tryz.ntmps65 (by kernel_rfl) (Nat.le_of_ble_eq_true rfl) ?_)
  refine w_seq (w_region (?_))
  refine o_ev (ev_assign rfl) rfl ?_
  refine o_nil (sq_n (w_seq (w_region (?_))))
  refine o_st (st_build0 eB rfl) rfl ?_
  rintro _ _ ⟨s1, rfl, rfl⟩
  refine o_ev (ev_assign rfl) rfl ?_
  refine o_nil (sq_n (w_seq (w_block (?_))))
  refine w_loop (SV × Nat × List Nat) (fun y => y.2.2 ++ uv y.2.1 = uv x ∧ y.2.1 < 18446744073709551616) (fun y => [(0, .int .u64 ((y.2.1 : Nat) : Int)), (3, y.1.val)]) (fun y => Row y.1 eB y.2.2 :: H) (fun y => y.2.1) ((s1, x, [])) ?_ ?_ ?_ ?_
  · (try dsimp only)
    exact ⟨rfl, hx⟩
  · repeat (first | exact Sub.nil | refine Sub.cons rfl ?_)
  · (try dsimp only)
    (repeat (first | exact Ka | refine Kb ?_ | refine Kc ?_ | refine Kf ?_ | refine Kd ?_ | refine Ke ?_ | refine Kh ?_ | refine Kg rfl ?_ | refine Ki ?_ | refine Kj ?_ | refine Kk ?_ | refine Kl ?_ | refine Km ?_ | refine Kn ?_ | refine Ko ?_))
  · rintro ⟨s, n, zs⟩ ⟨hI, hnb⟩
    (try dsimp only at *)
    have hlen := congrArg List.length hI
    have hpos := uv_pos n
    simp only [List.length_append] at hlen
    refine w_seq (w_seq (w_region (?_)))
    refine o_ev (ev_move rfl) rfl ?_
    refine o_ev (ev_geq rfl rfl) rfl ?_
    refine o_nil (sq_n (?_))
    refine w_if rfl (fun h1 => ?_) (fun h1 => ?_)
    · skip
      try simp only [Za, Zb, Zc, Zd, Ze, Zf, Zg, Zh] at h1
      skip
      refine w_skip (sq_n (w_block (w_seq (w_region (?_)))))
      refine o_ev (ev_move rfl) rfl ?_
      refine o_ev (ev_move rfl) rfl ?_
      refine o_ev (ev_rem rfl rfl n 128 rfl rfl (by omega)) rfl ?_
      refine o_ev (ev_addL 18446744073709551616 rfl rfl rfl rfl 128 (n % 128) rfl rfl (by omega)) rfl ?_
      refine o_ev (ev_convL 256 rfl rfl rfl (128 + n % 128) (by omega) (by omega)) rfl ?_
      refine o_st (st_build1 eB rfl rfl) rfl ?_
      rintro _ _ ⟨s2, rfl, rfl⟩
      refine o_st (st_append rfl rfl rfl rfl (by simp only [List.length_cons, List.length_nil]; omega) (by simp only [List.length_cons, List.length_nil]; omega)) rfl ?_
      rintro _ _ ⟨s2, rfl, rfl⟩
      refine o_ev (ev_assign rfl) rfl ?_
      refine o_nil (sq_n (w_region (?_)))
      refine o_ev (ev_move rfl) rfl ?_
      refine o_ev (ev_quo rfl rfl n 128 rfl rfl (by omega) (by show _ ≤ (18446744073709551615 : Int); omega)) rfl ?_
      refine o_ev (ev_assign rfl) rfl ?_
      refine o_nil (bk_n (?_))
      skip
      refine lq_n ((s2, n / 128, zs ++ [128 + n % 128])) ?_ ?_ ?_ ?_
      · (try dsimp only)
        refine ⟨?_, by omega⟩
        rw [← hI, uv_big (n := n) (by omega), Nat.add_comm 128]
        simp
      · (try dsimp only)
        omega
      · repeat (first | exact Sub.nil | refine Sub.cons rfl ?_)
      · (try dsimp only)
        (repeat (first | exact Ka | refine Kb ?_ | refine Kc ?_ | refine Kf ?_ | refine Kd ?_ | refine Ke ?_ | refine Kh ?_ | refine Kg rfl ?_ | refine Ki ?_ | refine Kj ?_ | refine Kk ?_ | refine Kl ?_ | refine Km ?_ | refine Kn ?_ | refine Ko ?_))
    · skip
      try simp only [Za, Zb, Zc, Zd, Ze, Zf, Zg, Zh] at h1
      have e : zs ++ [n] = uv x := by rw [← hI, uv_small (by omega)]
      refine w_exit (sq_e (lq_e (bk_h (sq_n (w_seq (w_region (?_)))))))
      refine o_ev (ev_move rfl) rfl ?_
      refine o_ev (ev_move rfl) rfl ?_
      refine o_ev (ev_convL 256 rfl rfl rfl n rfl (by omega)) rfl ?_
      refine o_st (st_build1 eB rfl rfl) rfl ?_
      rintro _ _ ⟨s3, rfl, rfl⟩
      refine o_st (st_append rfl rfl rfl rfl (by simp only [List.length_cons, List.length_nil]; omega) (by simp only [List.length_cons, List.length_nil]; omega)) rfl ?_
      rintro _ _ ⟨s2, rfl, rfl⟩
      refine o_ev (ev_assign rfl) rfl ?_
      refine o_nil (sq_n (w_ret (?_)))
      refine res_intro (vs := [_]) Tryz.results65 (.inr rfl) (.cons (.tmp rfl) (.nil)) ?_
      exact ⟨_, by rw [e]; (repeat (first | exact Ka | refine Kb ?_ | refine Kc ?_ | refine Kf ?_ | refine Kd ?_ | refine Ke ?_ | refine Kh ?_ | refine Kg rfl ?_ | refine Ki ?_ | refine Kj ?_ | refine Kk ?_ | refine Kl ?_ | refine Km ?_ | refine Kn ?_ | refine Ko ?_)), s2, rfl, rfl⟩

theorem refText {G : Base} {H : Heap} (q : ByteArray) (hq : q.size ≤ 1000000000000) : SC G Tryz.prog 66 [.string q] H (fun v H' => ∃ s' : SV, v = s'.val ∧ H' = Row s' eB (uv q.size ++ byts q) :: H) := by
  have hl := uv_len10 (n := q.size) (by omega)
  refine SC.out (sc_walk Tryz.func66 rfl Tryz.ntmps66 (by kernel_rfl) (Nat.le_of_ble_eq_true rfl) ?_)
  refine w_seq (w_region (?_))
  refine o_ev (ev_assign rfl) rfl ?_
  refine o_nil (sq_n (w_seq (w_region (?_))))
  refine o_ev (ev_move rfl) rfl ?_
  refine o_ev (ev_len_str1 rfl) rfl ?_
  refine o_ev (ev_convL 18446744073709551616 rfl rfl rfl q.size rfl (by omega)) rfl ?_
  refine o_st (st_call (vs := [_]) rfl (refUv1 q.size (by omega))) rfl ?_
  rintro _ _ ⟨s1, rfl, rfl⟩
  refine o_ev (ev_move rfl) rfl ?_
  refine o_st (st_append_str rfl rfl rfl (by omega) (by omega)) rfl ?_
  rintro _ _ ⟨s2, rfl, rfl⟩
  refine o_ev (ev_assign rfl) rfl ?_
  refine o_nil (sq_n (w_ret (?_)))
  refine res_intro (vs := [_]) Tryz.results66 (.inr rfl) (.cons (.tmp rfl) (.nil)) ?_
  exact ⟨_, by (repeat (first | exact Ka | refine Kb ?_ | refine Kc ?_ | refine Kf ?_ | refine Kd ?_ | refine Ke ?_ | refine Kh ?_ | refine Kg rfl ?_ | refine Ki ?_ | refine Kj ?_ | refine Kk ?_ | refine Kl ?_ | refine Km ?_ | refine Kn ?_ | refine Ko ?_)), s2, rfl, rfl⟩

theorem refWord {G : Base} {H : Heap} (x : Nat) (hx : x < 4294967296) : SC G Tryz.prog 69 [.int .u32 ((x : Nat) : Int)] H (fun v H' => ∃ s' : SV, v = s'.val ∧ H' = Row s' eB (w32 x) :: H) := by
  refine SC.out (sc_walk Tryz.func69 rfl Tryz.ntmps69 (by kernel_rfl) (Nat.le_of_ble_eq_true rfl) ?_)
  refine w_seq (w_region (?_))
  refine o_ev (ev_assign rfl) rfl ?_
  refine o_nil (sq_n (w_seq (w_region (?_))))
  refine o_ev (ev_move rfl) rfl ?_
  refine o_ev ((by first | exact ev_convL 256 rfl rfl rfl _ rfl (by omega) | exact ev_convM 256 rfl rfl rfl _ rfl)) rfl ?_
  refine o_ev (ev_move rfl) rfl ?_
  refine o_ev (ev_shru rfl rfl _ 8 rfl rfl (by first | decide | (show _ ≤ 32; omega))) rfl ?_
  refine o_ev ((by first | exact ev_convL 256 rfl rfl rfl _ rfl (by omega) | exact ev_convM 256 rfl rfl rfl _ rfl)) rfl ?_
  refine o_ev (ev_move rfl) rfl ?_
  refine o_ev (ev_shru rfl rfl _ 16 rfl rfl (by first | decide | (show _ ≤ 32; omega))) rfl ?_
  refine o_ev ((by first | exact ev_convL 256 rfl rfl rfl _ rfl (by omega) | exact ev_convM 256 rfl rfl rfl _ rfl)) rfl ?_
  refine o_ev (ev_move rfl) rfl ?_
  refine o_ev (ev_shru rfl rfl _ 24 rfl rfl (by first | decide | (show _ ≤ 32; omega))) rfl ?_
  refine o_ev ((by first | exact ev_convL 256 rfl rfl rfl _ rfl (by omega) | exact ev_convM 256 rfl rfl rfl _ rfl)) rfl ?_
  refine o_st (st_build4 eB rfl rfl rfl rfl rfl) rfl ?_
  rintro _ _ ⟨s1, rfl, rfl⟩
  refine o_ev (ev_assign rfl) rfl ?_
  refine o_nil (sq_n (w_ret (?_)))
  refine res_intro (vs := [_]) Tryz.results69 (.inr rfl) (.cons (.tmp rfl) (.nil)) ?_
  have h24 : x / 16777216 % 256 = x / 2 ^ 24 := by omega
  have hw : w32 x = [x % 256, x / 2 ^ 8 % 256, x / 2 ^ 16 % 256, x / 2 ^ 24] := by
    show [x % 256, x / 256 % 256, x / 65536 % 256, x / 16777216 % 256] = _
    rw [h24]
  exact ⟨_, by rw [hw]; (repeat (first | exact Ka | refine Kb ?_ | refine Kc ?_ | refine Kf ?_ | refine Kd ?_ | refine Ke ?_ | refine Kh ?_ | refine Kg rfl ?_ | refine Ki ?_ | refine Kj ?_ | refine Kk ?_ | refine Kl ?_ | refine Km ?_ | refine Kn ?_ | refine Ko ?_)), s1, rfl, rfl⟩

theorem refEnc {G : Base} {H : Heap} {s : SV} {body : List Nat} [Sl H s eB body] (tag : Nat) (ht0 : tag ≠ 0) (ht : tag < 256) (hb : ∀ x ∈ body, x < 256) (hn : body.length ≤ 10000000000) : SC G Tryz.prog 68 [.int .u8 ((tag : Nat) : Int), s.val] H (fun v H' => ∃ s' : SV, v = .tuple #[s'.val, .int .i64 0] ∧ H' = Row s' eB (encB tag body) :: H) := by
  have hul := uv_len10 (n := body.length) (by omega)
  have hpl := encP_len tag body
  refine SC.out (sc_walk Tryz.func68 rfl Tryz.ntmps68 (by kernel_rfl) (Nat.le_of_ble_eq_true rfl) ?_)
  refine w_seq (w_region (?_))
  refine o_ev (ev_assign rfl) rfl ?_
  refine o_ev (ev_assign rfl) rfl ?_
  refine o_nil (sq_n (w_seq (w_seq (w_region (?_)))))
  refine o_ev (ev_move rfl) rfl ?_
  refine o_ev (ev_eql rfl rfl) rfl ?_
  refine o_nil (sq_n (?_))
  refine w_if rfl (fun h1 => ?_) (fun h1 => ?_)
  · skip
    try simp only [Za, Zb, Zc, Zd, Ze, Zf, Zg, Zh] at h1
    exfalso; omega -- DONE
  · skip
    try simp only [Za, Zb, Zc, Zd, Ze, Zf, Zg, Zh] at h1
    refine w_skip (sq_n (w_seq (w_region (?_))))
    refine o_ev (ev_move rfl) rfl ?_
    refine o_st (st_build1 eB rfl rfl) rfl ?_
    rintro _ _ ⟨s1, rfl, rfl⟩
    refine o_ev (ev_assign rfl) rfl ?_
    refine o_nil (sq_n (w_seq (w_region (?_))))
    refine o_ev (ev_move rfl) rfl ?_
    refine o_ev (ev_move rfl) rfl ?_
    refine o_ev (ev_len1 rfl) rfl ?_
    refine o_ev (ev_convL 18446744073709551616 rfl rfl rfl body.length rfl (by omega)) rfl ?_
    refine o_st (st_call (vs := [_]) rfl (refUv2 body.length (by omega))) rfl ?_
    rintro _ _ ⟨s2, rfl, rfl⟩
    refine o_st (st_append rfl rfl rfl rfl (by simp only [List.length_cons, List.length_nil]; omega) (by simp only [List.length_cons, List.length_nil]; omega)) rfl ?_
    rintro _ _ ⟨s3, rfl, rfl⟩
    refine o_ev (ev_assign rfl) rfl ?_
    refine o_nil (sq_n (w_seq (w_region (?_))))
    refine o_ev (ev_move rfl) rfl ?_
    refine o_ev (ev_move rfl) rfl ?_
    refine o_st (st_append rfl rfl rfl rfl (by simp only [List.length_append, List.length_cons, List.length_nil]; omega) (by simp only [List.length_append, List.length_cons, List.length_nil]; omega)) rfl ?_
    rintro _ _ ⟨s4, rfl, rfl⟩
    refine o_ev (ev_assign rfl) rfl ?_
    refine o_nil (sq_n (w_seq (w_region (?_))))
    refine o_ev (ev_move rfl) rfl ?_
    refine o_ev (ev_move rfl) rfl ?_
    refine o_st (st_call (vs := [_]) rfl (refSum (xs := encP tag body) (by omega) (encP_lt ht hb))) rfl ?_
    rintro _ _ ⟨rfl, rfl⟩
    refine o_st (st_call (vs := [_]) rfl (refWord (zipS (encP tag body)) (zipS_lt (encP_lt ht hb)))) rfl ?_
    rintro _ _ ⟨s5, rfl, rfl⟩
    refine o_st (st_append (xs := encP tag body) rfl rfl rfl rfl (by rw [w32_len]; omega) (by rw [w32_len]; omega)) rfl ?_
    rintro _ _ ⟨s6, rfl, rfl⟩
    refine o_ev (ev_assign rfl) rfl ?_
    refine o_nil (sq_n (w_seq (w_region (?_))))
    refine o_ev (ev_move rfl) rfl ?_
    refine o_ev (ev_assign rfl) rfl ?_
    refine o_ev (ev_assign rfl) rfl ?_
    refine o_nil (sq_n (w_ret (?_)))
    refine res_intro (vs := [_, _]) Tryz.results68 (.inr rfl) (.cons (.tmp rfl) (.cons (.tmp rfl) (.nil))) ?_
    exact ⟨_, by (repeat (first | exact Ka | refine Kb ?_ | refine Kc ?_ | refine Kf ?_ | refine Kd ?_ | refine Ke ?_ | refine Kh ?_ | refine Kg rfl ?_ | refine Ki ?_ | refine Kj ?_ | refine Kk ?_ | refine Kl ?_ | refine Km ?_ | refine Kn ?_ | refine Ko ?_)), s6, rfl, rfl⟩
end Go.Sx
namespace Go.Sx
open Go Go.Proofs
set_option maxRecDepth 100000
set_option linter.unusedSimpArgs false
set_option linter.unusedVariables false

theorem refPack2 {G : Base} {H : Heap} {s : SV} {l : List (Nat × SV)} {bl : List (Nat × List Nat)} [Sl H s eK l] (kind : Nat) (hk0 : kind ≠ 0) (hk : kind < 256) (hB : Bods H l bl) (ht : ∀ q ∈ bl, 0 < q.1 ∧ q.1 < 256 ∧ ∀ x ∈ q.2, x < 256) (hn : (encAll bl).length ≤ 1000000000) (hm : bl.length ≤ 1000000000) : SC G Tryz.prog 34 [.int .u8 ((kind : Nat) : Int), s.val] H (fun v H' => ∃ s' : SV, v = .tuple #[s'.val, .int .i64 0] ∧ H' = Row s' eB (imgP kind bl) :: H) := by
  obtain ⟨hlen, hbod⟩ := hB
  have hul := uv_len10 (n := bl.length) (by omega)
  have hql : (imgQ kind bl).length ≤ 10000000000 := by rw [imgQ_len]; omega
  refine SC.out (sc_walk Tryz.func34 rfl Tryz.ntmps34 (by kernel_rfl) (Nat.le_of_ble_eq_true rfl) ?_)
  refine w_seq (w_region (?_))
  refine o_ev (ev_assign rfl) rfl ?_
  refine o_ev (ev_assign rfl) rfl ?_
  refine o_nil (sq_n (w_seq (w_seq (w_region (?_)))))
  refine o_ev (ev_move rfl) rfl ?_
  refine o_ev (ev_eql rfl rfl) rfl ?_
  refine o_nil (sq_n (?_))
  refine w_if rfl (fun h1 => ?_) (fun h1 => ?_)
  · skip
    try simp only [Za, Zb, Zc, Zd, Ze, Zf, Zg, Zh] at h1
    exfalso; omega -- DONE
  · skip
    try simp only [Za, Zb, Zc, Zd, Ze, Zf, Zg, Zh] at h1
    refine w_skip (sq_n (w_seq (w_region (?_))))
    refine o_ev (ev_move rfl) rfl ?_
    refine o_st (st_build5 eB rfl rfl rfl rfl rfl rfl) rfl ?_
    rintro _ _ ⟨s1, rfl, rfl⟩
    refine o_ev (ev_assign rfl) rfl ?_
    refine o_nil (sq_n (w_seq (w_region (?_))))
    refine o_ev (ev_move rfl) rfl ?_
    refine o_ev (ev_move rfl) rfl ?_
    refine o_ev (ev_len1 rfl) rfl ?_
    refine o_ev (ev_convL 18446744073709551616 rfl rfl rfl l.length rfl (by omega)) rfl ?_
    refine o_st (st_call (vs := [_]) rfl (refUv2 l.length (by omega))) rfl ?_
    rintro _ _ ⟨s2, rfl, rfl⟩
    refine o_st (st_append rfl rfl rfl rfl (by rw [hlen]; simp only [List.length_cons, List.length_nil]; omega) (by rw [hlen]; simp only [List.length_cons, List.length_nil]; omega)) rfl ?_
    rintro _ _ ⟨s3, rfl, rfl⟩
    refine o_ev (ev_assign rfl) rfl ?_
    refine o_nil (sq_n (w_seq (w_seq (w_region (?_)))))
    rw [hlen]
    refine o_ev (ev_move rfl) rfl ?_
    refine o_ev (ev_len1 rfl) rfl ?_
    refine o_ev (ev_move rfl) rfl ?_
    refine o_nil (sq_n (w_block (?_)))
    refine w_loop (SV × Nat × List Nat) (fun y => y.2.1 ≤ bl.length ∧ y.2.2 = [99, 110, 99, 100] ++ [kind] ++ uv bl.length ++ encAll (bl.take y.2.1)) (fun y => [(6, y.1.val), (21, s.val), (22, .int .i64 ((bl.length : Nat) : Int)), (23, .int .i64 ((y.2.1 : Nat) : Int))]) (fun y => Row y.1 eB y.2.2 :: H) (fun y => bl.length - y.2.1) ((s3, 0, [99, 110, 99, 100, kind] ++ uv bl.length)) ?_ ?_ ?_ ?_
    · (try dsimp only)
      exact ⟨Nat.zero_le _, by simp [encAll]⟩
    · (try rw [hlen])
      repeat (first | exact Sub.nil | refine Sub.cons rfl ?_)
    · (try dsimp only)
      (repeat (first | exact Ka | refine Kb ?_ | refine Kc ?_ | refine Kf ?_ | refine Kd ?_ | refine Ke ?_ | refine Kh ?_ | refine Kg rfl ?_ | refine Ki ?_ | refine Kj ?_ | refine Kk ?_ | refine Kl ?_ | refine Km ?_ | refine Kn ?_ | refine Ko ?_))
    · rintro ⟨so, i, zs⟩ ⟨hi, hI⟩
      (try dsimp only at *)
      have hzl : zs.length ≤ 10000000000 := by
        have := encAll_le bl i
        rw [hI]; simp only [List.length_append, List.length_cons, List.length_nil]; omega
      refine w_seq (w_region (?_))
      refine o_ev (ev_lss rfl rfl) rfl ?_
      refine o_nil (sq_n (w_seq (?_)))
      refine w_if rfl (fun h2 => ?_) (fun h2 => ?_)
      · skip
        try simp only [Za, Zb, Zc, Zd, Ze, Zf, Zg, Zh] at h2
        obtain ⟨p, hp⟩ : ∃ p, l[i]? = some p := ⟨_, List.getElem?_eq_getElem (by omega)⟩
        obtain ⟨q, hq⟩ : ∃ q, bl[i]? = some q := ⟨_, List.getElem?_eq_getElem (by omega)⟩
        obtain ⟨hpq, hS⟩ := hbod i p q hp hq
        obtain ⟨ht1, ht2, ht3⟩ := ht q (List.mem_of_getElem? hq)
        have hbl := body_le (List.mem_of_getElem? hq)
        have hel : (encB q.1 q.2).length ≤ 10000000000 := by
          have hu := uv_len10 (n := q.2.length) (by omega)
          rw [encB_len]; omega
        refine w_skip (sq_n (w_seq (w_block (w_seq (w_region (?_))))))
        refine o_ev (ev_indexAddr rfl rfl _ rfl (by omega)) rfl ?_
        refine o_ev (ev_loadS_el rfl (by rfl) (by rfl) _ (by first | assumption | rfl | exact List.getElem?_eq_getElem (by omega))) rfl ?_
        refine o_st (st_alloc) rfl ?_
        rintro _ _ ⟨b1, rfl, rfl⟩
        refine o_st (st_store rfl rfl rfl) rfl ?_
        rintro _ _ ⟨rfl, rfl⟩
        refine o_nil (sq_n (w_seq (w_region (?_))))
        refine o_ev (ev_fieldAddr rfl) rfl ?_
        refine o_ev (ev_load rfl) rfl ?_
        refine o_ev (ev_fieldAddr rfl) rfl ?_
        refine o_ev (ev_load rfl) rfl ?_
        refine o_st (st_call (vs := [_, _]) rfl (refEnc p.1 (by omega) (by omega) ht3 (by omega))) rfl ?_
        rintro _ _ ⟨s2, rfl, rfl⟩
        rw [hpq]
        · skip
          refine o_ev (ev_move rfl) rfl ?_
          refine o_ev (ev_extract1 rfl rfl) rfl ?_
          refine o_ev (ev_extract1 rfl rfl) rfl ?_
          refine o_ev (ev_assign rfl) rfl ?_
          refine o_ev (ev_assign rfl) rfl ?_
          refine o_nil (sq_n (w_seq (w_seq (w_region (?_)))))
          refine o_ev (ev_move rfl) rfl ?_
          refine o_ev (ev_neq rfl rfl) rfl ?_
          refine o_nil (sq_n (?_))
          refine w_if_false rfl (w_skip (sq_n (w_region (?_))))
          refine o_ev (ev_move rfl) rfl ?_
          refine o_ev (ev_move rfl) rfl ?_
          refine o_st (st_append rfl rfl rfl rfl (by omega) (by omega)) rfl ?_
          rintro _ _ ⟨s4, rfl, rfl⟩
          refine o_ev (ev_assign rfl) rfl ?_
          refine o_nil (bk_n (sq_n (w_region (?_))))
          refine o_ev (ev_add rfl rfl (by omega)) rfl ?_
          refine o_ev (ev_move rfl) rfl ?_
          refine o_nil (?_)
          skip
          refine lq_n ((s4, i + 1, zs ++ encB q.1 q.2)) ?_ ?_ ?_ ?_
          · (try dsimp only)
            refine ⟨by omega, ?_⟩
            rw [take_succ_get hq, encAll_snoc, hI]; simp
          · (try dsimp only)
            omega
          · repeat (first | exact Sub.nil | refine Sub.cons rfl ?_)
          · (try dsimp only)
            (repeat (first | exact Ka | refine Kb ?_ | refine Kc ?_ | refine Kf ?_ | refine Kd ?_ | refine Ke ?_ | refine Kh ?_ | refine Kg rfl ?_ | refine Ki ?_ | refine Kj ?_ | refine Kk ?_ | refine Kl ?_ | refine Km ?_ | refine Kn ?_ | refine Ko ?_))
      · skip
        try simp only [Za, Zb, Zc, Zd, Ze, Zf, Zg, Zh] at h2
        obtain rfl : i = bl.length := by omega
        rw [List.take_length] at hI
        have hI' : zs = imgQ kind bl := hI
        subst hI'
        refine w_exit (sq_e (lq_e (bk_h (sq_n (w_seq (w_region (?_)))))))
        refine o_ev (ev_move rfl) rfl ?_
        refine o_ev (ev_move rfl) rfl ?_
        refine o_st (st_call (vs := [_]) rfl (refSeal (by omega) (imgQ_lt hk fun q hq => (ht q hq).2))) rfl ?_
        rintro _ _ ⟨rfl, rfl⟩
        refine o_st (st_call (vs := [_]) rfl (refWord (sealS (imgQ kind bl)) (sealS_lt (imgQ_lt hk fun q hq => (ht q hq).2)))) rfl ?_
        rintro _ _ ⟨s5, rfl, rfl⟩
        refine o_st (st_append (xs := imgQ kind bl) rfl rfl rfl rfl (by rw [w32_len]; omega) (by rw [w32_len]; omega)) rfl ?_
        rintro _ _ ⟨s6, rfl, rfl⟩
        refine o_ev (ev_assign rfl) rfl ?_
        refine o_nil (sq_n (w_seq (w_region (?_))))
        refine o_ev (ev_move rfl) rfl ?_
        refine o_ev (ev_assign rfl) rfl ?_
        refine o_ev (ev_assign rfl) rfl ?_
        refine o_nil (sq_n (w_ret (?_)))
        refine res_intro (vs := [_, _]) Tryz.results34 (.inr rfl) (.cons (.tmp rfl) (.cons (.tmp rfl) (.nil))) ?_
        exact ⟨_, by (repeat (first | exact Ka | refine Kb ?_ | refine Kc ?_ | refine Kf ?_ | refine Kd ?_ | refine Ke ?_ | refine Kh ?_ | refine Kg rfl ?_ | refine Ki ?_ | refine Kj ?_ | refine Kk ?_ | refine Kl ?_ | refine Km ?_ | refine Kn ?_ | refine Ko ?_)), s6, rfl, rfl⟩
end Go.Sx
