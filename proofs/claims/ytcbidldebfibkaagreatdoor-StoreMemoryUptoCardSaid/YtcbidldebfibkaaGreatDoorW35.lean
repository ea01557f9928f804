import Derived.Test.YtcbidldebfibkaaGreatDoorW33
import Derived.Test.YtcbidldebfibkaaGreatDoorSxT
set_option linter.unusedVariables false
set_option linter.unusedSimpArgs false
set_option linter.unusedSectionVars false
set_option linter.unnecessarySimpa false
namespace Go.Sx
open Go Go.Proofs
set_option maxRecDepth 100000
set_option linter.unusedSimpArgs false
set_option linter.unusedVariables false

/-! ## Marks; lists with spare room -/
def mk1 (i j : Nat) : Nat := ((i + 1) * 11400714819323198485 % 18446744073709551616 + (j + 1) * 13787848793156543929 % 18446744073709551616) % 18446744073709551616
def mk2 (i j : Nat) : Nat := (mk1 i j ^^^ (mk1 i j / 2 ^ 29)) * 10723151780598845931 % 18446744073709551616
def mkN (i j : Nat) : Nat := mk2 i j / 2 ^ 33 + 1
theorem mk2_lt (i j : Nat) : mk2 i j / 2 ^ 33 < 2147483648 := by
  have : mk2 i j < 18446744073709551616 := Nat.mod_lt _ (by decide)
  omega
theorem markPr {G : Base} {H : Heap} {i j : Nat} (hi : i ≤ 1000000000000) (hj : j ≤ 1000000000000) : SC G Tryz.prog 49 [.int .i64 ((i : Nat) : Int), .int .i64 ((j : Nat) : Int)] H (fun v H' => v = .int .i64 ((mkN i j : Nat) : Int) ∧ H' = H) := by
  refine SC.out (sc_walk Tryz.func49 rfl Tryz.ntmps49 (by kernel_rfl) (Nat.le_of_ble_eq_true rfl) ?_)
  refine w_seq (w_region (?_))
  refine o_ev (ev_assign rfl) rfl ?_
  refine o_nil (sq_n (w_seq (w_region (?_))))
  refine o_ev (ev_move rfl) rfl ?_
  refine o_ev (ev_add rfl rfl (by omega)) rfl ?_
  refine o_ev (ev_convL 18446744073709551616 rfl rfl rfl (i + 1) (by omega) (by omega)) rfl ?_
  refine o_ev (ev_mulM 18446744073709551616 rfl rfl rfl rfl (i + 1) 11400714819323198485 rfl rfl) rfl ?_
  refine o_ev (ev_move rfl) rfl ?_
  refine o_ev (ev_add rfl rfl (by omega)) rfl ?_
  refine o_ev (ev_convL 18446744073709551616 rfl rfl rfl (j + 1) (by omega) (by omega)) rfl ?_
  refine o_ev (ev_mulM 18446744073709551616 rfl rfl rfl rfl (j + 1) 13787848793156543929 rfl rfl) rfl ?_
  refine o_ev (ev_addM 18446744073709551616 rfl rfl rfl rfl _ _ rfl rfl) rfl ?_
  refine o_ev (ev_assign rfl) rfl ?_
  refine o_nil (sq_n (w_seq (w_region (?_))))
  have h1 : mk1 i j < 18446744073709551616 := Nat.mod_lt _ (by decide)
  have h2 : mk1 i j / 2 ^ 29 < 18446744073709551616 := by omega
  have h3 := mk2_lt i j
  have h4 : mk1 i j ^^^ (mk1 i j / 2 ^ 29) < 18446744073709551616 := Nat.xor_lt_two_pow (n := 64) h1 h2
  refine o_ev (ev_move rfl) rfl ?_
  refine o_ev (ev_move rfl) rfl ?_
  refine o_ev (ev_shru rfl rfl (mk1 i j) 29 rfl rfl (by decide)) rfl ?_
  refine o_ev (ev_xorM 18446744073709551616 rfl rfl rfl rfl (mk1 i j) (mk1 i j / 2 ^ 29) rfl rfl h1 h2) rfl ?_
  refine o_ev (ev_assign rfl) rfl ?_
  refine o_nil (sq_n (w_seq (w_region (?_))))
  refine o_ev (ev_move rfl) rfl ?_
  refine o_ev (ev_mulM 18446744073709551616 rfl rfl rfl rfl (mk1 i j ^^^ (mk1 i j / 2 ^ 29)) 10723151780598845931 rfl rfl) rfl ?_
  refine o_ev (ev_assign rfl) rfl ?_
  refine o_nil (sq_n (w_seq (w_region (?_))))
  refine o_ev (ev_move rfl) rfl ?_
  refine o_ev (ev_shru rfl rfl (mk2 i j) 33 rfl rfl (by decide)) rfl ?_
  refine o_ev (ev_conv64 rfl (by omega)) rfl ?_
  refine o_ev (ev_add rfl rfl (by omega)) rfl ?_
  refine o_ev (ev_assign rfl) rfl ?_
  refine o_nil (sq_n (w_ret (?_)))
  refine res_intro (vs := [_]) Tryz.results49 (.inr rfl) (.cons (.tmp rfl) (.nil)) ?_
  exact ⟨_, Ka, by show Value.int .i64 _ = _; simp [mkN], rfl⟩

def mkB (k : Nat) : List Nat := (List.range k).map fun j => mkN 7 j % 256
def mkI (k : Nat) : List Int := (List.range k).map fun j => ((mkN 7 j : Nat) : Int)
theorem mkB_len (k : Nat) : (mkB k).length = k := by simp [mkB]
theorem mkI_len (k : Nat) : (mkI k).length = k := by simp [mkI]
theorem mkB_succ (k : Nat) : mkB (k + 1) = mkB k ++ [mkN 7 k % 256] := by simp [mkB, List.range_succ]
theorem mkI_succ (k : Nat) : mkI (k + 1) = mkI k ++ [((mkN 7 k : Nat) : Int)] := by simp [mkI, List.range_succ]
theorem mkB_get {k j : Nat} (h : j < k) : (mkB k)[j]? = some (mkN 7 j % 256) := by simp [mkB, h]
theorem mkI_get {k j : Nat} (h : j < k) : (mkI k)[j]? = some ((mkN 7 j : Nat) : Int) := by simp [mkI, h]
theorem mkB_lt (k : Nat) : ∀ x ∈ mkB k, x < 256 := by
  intro x hx
  obtain ⟨j, _, rfl⟩ := List.mem_map.1 hx
  omega

theorem spareB {G : Base} {H : Heap} {s : SV} {xs : List Nat} [Sl H s eB xs] (hn : xs.length ≤ 100000000000) : SC G Tryz.prog 16 [s.val] H (fun v H' => ∃ sF : SV, v = .tuple #[(sF.cut 1 0 xs.length).val, sF.val] ∧ H' = Row sF eB (xs ++ mkB 80) :: H) := by
  refine SC.out (sc_walk Tryz.func16 rfl Tryz.ntmps16 (by kernel_rfl) (Nat.le_of_ble_eq_true rfl) ?_)
  refine w_seq (w_region (?_))
  refine o_ev (ev_assign rfl) rfl ?_
  refine o_ev (ev_assign rfl) rfl ?_
  refine o_nil (sq_n (w_seq (w_region (?_))))
  refine o_ev (ev_move rfl) rfl ?_
  refine o_ev (ev_len1 rfl) rfl ?_
  refine o_ev (ev_add rfl rfl (by omega)) rfl ?_
  refine o_st (st_make eB 0 rfl rfl 0 (xs.length + 80) rfl (by omega) rfl (by omega) (by omega) (by omega)) rfl ?_
  rintro _ _ ⟨s1, rfl, _, _, rfl⟩
  refine o_ev (ev_assign rfl) rfl ?_
  refine o_nil (sq_n (w_seq (w_region (?_))))
  refine o_ev (ev_move rfl) rfl ?_
  refine o_ev (ev_move rfl) rfl ?_
  refine o_st (st_append rfl rfl rfl rfl (by simp only [List.length_replicate]; omega) (by simp only [List.length_replicate]; omega)) rfl ?_
  rintro _ _ ⟨s2, rfl, rfl⟩
  rw [show List.replicate 0 (0 : Nat) ++ xs = xs ++ mkB 0 by simp [mkB]]
  refine o_ev (ev_assign rfl) rfl ?_
  refine o_nil (sq_n (w_seq (w_seq (w_region (?_)))))
  refine o_ev (ev_assign rfl) rfl ?_
  refine o_nil (sq_n (w_block (?_)))
  refine w_loop (SV × Nat) (fun y => y.2 ≤ 80) (fun y => [(0, s.val), (4, y.1.val), (5, .int .i64 ((y.2 : Nat) : Int))]) (fun y => Row y.1 eB (xs ++ mkB y.2) :: H) (fun y => 80 - y.2) ((s2, 0)) ?_ ?_ ?_ ?_
  · (try dsimp only)
    exact Nat.zero_le _
  · repeat (first | exact Sub.nil | refine Sub.cons rfl ?_)
  · (try dsimp only)
    (repeat (first | exact Ka | refine Kb ?_ | refine Kc ?_ | refine Kf ?_ | refine Kd ?_ | refine Ke ?_ | refine Kh ?_ | refine Kg rfl ?_ | refine Ki ?_ | refine Kj ?_ | refine Kk ?_ | refine Kl ?_ | refine Km ?_ | refine Kn ?_ | refine Ko ?_))
  · rintro ⟨sf, j⟩ hj
    (try dsimp only at *)
    refine w_seq (w_seq (w_region (?_)))
    refine o_ev (ev_move rfl) rfl ?_
    refine o_ev (ev_lss rfl rfl) rfl ?_
    refine o_nil (sq_n (?_))
    refine w_if rfl (fun h1 => ?_) (fun h1 => ?_)
    · skip
      try simp only [Za, Zb, Zc, Zd, Ze, Zf, Zg, Zh] at h1
      refine w_skip (sq_n (w_seq (w_block (w_region (?_)))))
      refine o_ev (ev_move rfl) rfl ?_
      refine o_ev (ev_move rfl) rfl ?_
      refine o_st (st_call (vs := [_, _]) rfl (markPr (i := 7) (j := j) (by decide) (by omega))) rfl ?_
      rintro _ _ ⟨rfl, rfl⟩
      refine o_ev (ev_convM 256 rfl rfl rfl (mkN 7 j) rfl) rfl ?_
      refine o_st (st_build1 eB rfl rfl) rfl ?_
      rintro _ _ ⟨s3, rfl, rfl⟩
      refine o_st (st_append rfl rfl rfl rfl (by simp only [List.length_append, mkB_len, List.length_cons, List.length_nil]; omega) (by simp only [List.length_append, mkB_len, List.length_cons, List.length_nil]; omega)) rfl ?_
      rintro _ _ ⟨s4, rfl, rfl⟩
      rw [List.append_assoc, ← mkB_succ]
      refine o_ev (ev_assign rfl) rfl ?_
      refine o_nil (bk_n (sq_n (w_region (?_))))
      refine o_ev (ev_move rfl) rfl ?_
      refine o_ev (ev_add rfl rfl (by omega)) rfl ?_
      refine o_ev (ev_assign rfl) rfl ?_
      refine o_nil (?_)
      skip
      refine lq_n ((s4, j + 1)) ?_ ?_ ?_ ?_
      · (try dsimp only)
        omega
      · (try dsimp only)
        omega
      · repeat (first | exact Sub.nil | refine Sub.cons rfl ?_)
      · (try dsimp only)
        (repeat (first | exact Ka | refine Kb ?_ | refine Kc ?_ | refine Kf ?_ | refine Kd ?_ | refine Ke ?_ | refine Kh ?_ | refine Kg rfl ?_ | refine Ki ?_ | refine Kj ?_ | refine Kk ?_ | refine Kl ?_ | refine Km ?_ | refine Kn ?_ | refine Ko ?_))
    · skip
      try simp only [Za, Zb, Zc, Zd, Ze, Zf, Zg, Zh] at h1
      obtain rfl : j = 80 := by omega
      refine w_exit (sq_e (lq_e (bk_h (sq_n (w_seq (w_region (?_)))))))
      refine o_ev (ev_move rfl) rfl ?_
      refine o_ev (ev_move rfl) rfl ?_
      refine o_ev (ev_len1 rfl) rfl ?_
      refine o_ev (ev_slice1 rfl (by rfl) 0 xs.length rfl ⟨_, _, rfl, rfl⟩ (Nat.zero_le _) (by rw [List.length_append]; omega)) rfl ?_
      refine o_ev (ev_move rfl) rfl ?_
      refine o_ev (ev_assign rfl) rfl ?_
      refine o_ev (ev_assign rfl) rfl ?_
      refine o_nil (sq_n (w_ret (?_)))
      refine res_intro (vs := [_, _]) Tryz.results16 (.inr rfl) (.cons (.tmp rfl) (.cons (.tmp rfl) (.nil))) ?_
      exact ⟨_, by (repeat (first | exact Ka | refine Kb ?_ | refine Kc ?_ | refine Kf ?_ | refine Kd ?_ | refine Ke ?_ | refine Kh ?_ | refine Kg rfl ?_ | refine Ki ?_ | refine Kj ?_ | refine Kk ?_ | refine Kl ?_ | refine Km ?_ | refine Kn ?_ | refine Ko ?_)), sf, rfl, rfl⟩

theorem spareI {G : Base} {H : Heap} {s : SV} {xs : List Int} [Sl H s eI xs] (hn : xs.length ≤ 100000000000) : SC G Tryz.prog 17 [s.val] H (fun v H' => ∃ sF : SV, v = .tuple #[(sF.cut 1 0 xs.length).val, sF.val] ∧ H' = Row sF eI (xs ++ mkI 80) :: H) := by
  refine SC.out (sc_walk Tryz.func17 rfl Tryz.ntmps17 (by kernel_rfl) (Nat.le_of_ble_eq_true rfl) ?_)
  refine w_seq (w_region (?_))
  refine o_ev (ev_assign rfl) rfl ?_
  refine o_ev (ev_assign rfl) rfl ?_
  refine o_nil (sq_n (w_seq (w_region (?_))))
  refine o_ev (ev_move rfl) rfl ?_
  refine o_ev (ev_len1 rfl) rfl ?_
  refine o_ev (ev_add rfl rfl (by omega)) rfl ?_
  refine o_st (st_make eI 0 rfl rfl 0 (xs.length + 80) rfl (by omega) rfl (by omega) (by omega) (by omega)) rfl ?_
  rintro _ _ ⟨s1, rfl, _, _, rfl⟩
  refine o_ev (ev_assign rfl) rfl ?_
  refine o_nil (sq_n (w_seq (w_region (?_))))
  refine o_ev (ev_move rfl) rfl ?_
  refine o_ev (ev_move rfl) rfl ?_
  refine o_st (st_append rfl rfl rfl rfl (by simp only [List.length_replicate]; omega) (by simp only [List.length_replicate]; omega)) rfl ?_
  rintro _ _ ⟨s2, rfl, rfl⟩
  rw [show List.replicate 0 (0 : Int) ++ xs = xs ++ mkI 0 by simp [mkI]]
  refine o_ev (ev_assign rfl) rfl ?_
  refine o_nil (sq_n (w_seq (w_seq (w_region (?_)))))
  refine o_ev (ev_assign rfl) rfl ?_
  refine o_nil (sq_n (w_block (?_)))
  refine w_loop (SV × Nat) (fun y => y.2 ≤ 80) (fun y => [(0, s.val), (4, y.1.val), (5, .int .i64 ((y.2 : Nat) : Int))]) (fun y => Row y.1 eI (xs ++ mkI y.2) :: H) (fun y => 80 - y.2) ((s2, 0)) ?_ ?_ ?_ ?_
  · (try dsimp only)
    exact Nat.zero_le _
  · repeat (first | exact Sub.nil | refine Sub.cons rfl ?_)
  · (try dsimp only)
    (repeat (first | exact Ka | refine Kb ?_ | refine Kc ?_ | refine Kf ?_ | refine Kd ?_ | refine Ke ?_ | refine Kh ?_ | refine Kg rfl ?_ | refine Ki ?_ | refine Kj ?_ | refine Kk ?_ | refine Kl ?_ | refine Km ?_ | refine Kn ?_ | refine Ko ?_))
  · rintro ⟨sf, j⟩ hj
    (try dsimp only at *)
    refine w_seq (w_seq (w_region (?_)))
    refine o_ev (ev_move rfl) rfl ?_
    refine o_ev (ev_lss rfl rfl) rfl ?_
    refine o_nil (sq_n (?_))
    refine w_if rfl (fun h1 => ?_) (fun h1 => ?_)
    · skip
      try simp only [Za, Zb, Zc, Zd, Ze, Zf, Zg, Zh] at h1
      refine w_skip (sq_n (w_seq (w_block (w_region (?_)))))
      refine o_ev (ev_move rfl) rfl ?_
      refine o_ev (ev_move rfl) rfl ?_
      refine o_st (st_call (vs := [_, _]) rfl (markPr (i := 7) (j := j) (by decide) (by omega))) rfl ?_
      rintro _ _ ⟨rfl, rfl⟩
      refine o_st (st_build1 eI rfl rfl) rfl ?_
      rintro _ _ ⟨s3, rfl, rfl⟩
      refine o_st (st_append rfl rfl rfl rfl (by simp only [List.length_append, mkI_len, List.length_cons, List.length_nil]; omega) (by simp only [List.length_append, mkI_len, List.length_cons, List.length_nil]; omega)) rfl ?_
      rintro _ _ ⟨s4, rfl, rfl⟩
      rw [List.append_assoc, ← mkI_succ]
      refine o_ev (ev_assign rfl) rfl ?_
      refine o_nil (bk_n (sq_n (w_region (?_))))
      refine o_ev (ev_move rfl) rfl ?_
      refine o_ev (ev_add rfl rfl (by omega)) rfl ?_
      refine o_ev (ev_assign rfl) rfl ?_
      refine o_nil (?_)
      skip
      refine lq_n ((s4, j + 1)) ?_ ?_ ?_ ?_
      · (try dsimp only)
        omega
      · (try dsimp only)
        omega
      · repeat (first | exact Sub.nil | refine Sub.cons rfl ?_)
      · (try dsimp only)
        (repeat (first | exact Ka | refine Kb ?_ | refine Kc ?_ | refine Kf ?_ | refine Kd ?_ | refine Ke ?_ | refine Kh ?_ | refine Kg rfl ?_ | refine Ki ?_ | refine Kj ?_ | refine Kk ?_ | refine Kl ?_ | refine Km ?_ | refine Kn ?_ | refine Ko ?_))
    · skip
      try simp only [Za, Zb, Zc, Zd, Ze, Zf, Zg, Zh] at h1
      obtain rfl : j = 80 := by omega
      refine w_exit (sq_e (lq_e (bk_h (sq_n (w_seq (w_region (?_)))))))
      refine o_ev (ev_move rfl) rfl ?_
      refine o_ev (ev_move rfl) rfl ?_
      refine o_ev (ev_len1 rfl) rfl ?_
      refine o_ev (ev_slice1 rfl (by rfl) 0 xs.length rfl ⟨_, _, rfl, rfl⟩ (Nat.zero_le _) (by rw [List.length_append]; omega)) rfl ?_
      refine o_ev (ev_move rfl) rfl ?_
      refine o_ev (ev_assign rfl) rfl ?_
      refine o_ev (ev_assign rfl) rfl ?_
      refine o_nil (sq_n (w_ret (?_)))
      refine res_intro (vs := [_, _]) Tryz.results17 (.inr rfl) (.cons (.tmp rfl) (.cons (.tmp rfl) (.nil))) ?_
      exact ⟨_, by (repeat (first | exact Ka | refine Kb ?_ | refine Kc ?_ | refine Kf ?_ | refine Kd ?_ | refine Ke ?_ | refine Kh ?_ | refine Kg rfl ?_ | refine Ki ?_ | refine Kj ?_ | refine Kk ?_ | refine Kl ?_ | refine Km ?_ | refine Kn ?_ | refine Ko ?_)), sf, rfl, rfl⟩
end Go.Sx
namespace Go.Sx
open Go Go.Proofs
set_option maxRecDepth 100000
set_option linter.unusedSimpArgs false
set_option linter.unusedVariables false

/-! ## Is the whole still what it was? -/

theorem keptB {G : Base} {H : Heap} {s s2 : SV} {xs : List Nat} [Sl H s eB (xs ++ mkB 80)] [Sl H s2 eB xs] (hn : xs.length ≤ 100000000000) : SC G Tryz.prog 18 [s.val, s2.val] H (fun v H' => v = .bool true ∧ H' = H) := by
  have hl : (xs ++ mkB 80).length = xs.length + 80 := by rw [List.length_append, mkB_len]
  revert hl
  generalize hys : xs ++ mkB 80 = ys at *
  intro hl
  refine SC.out (sc_walk Tryz.func18 rfl Tryz.ntmps18 (by kernel_rfl) (Nat.le_of_ble_eq_true rfl) ?_)
  refine w_seq (w_region (?_))
  refine o_ev (ev_assign rfl) rfl ?_
  refine o_nil (sq_n (w_seq (w_seq (w_region (?_)))))
  refine o_ev (ev_move rfl) rfl ?_
  refine o_ev (ev_len1 rfl) rfl ?_
  refine o_ev (ev_move rfl) rfl ?_
  refine o_ev (ev_len1 rfl) rfl ?_
  refine o_ev (ev_add rfl rfl (by omega)) rfl ?_
  refine o_ev (ev_neq rfl rfl) rfl ?_
  refine o_nil (sq_n (?_))
  refine w_if rfl (fun h1 => ?_) (fun h1 => ?_)
  · skip
    try simp only [Za, Zb, Zc, Zd, Ze, Zf, Zg, Zh] at h1
    exact absurd h1 (by omega) -- DONE
  · skip
    try simp only [Za, Zb, Zc, Zd, Ze, Zf, Zg, Zh] at h1
    refine w_skip (sq_n (w_seq (w_seq (w_region (?_)))))
    refine o_ev (ev_move rfl) rfl ?_
    refine o_ev (ev_len1 rfl) rfl ?_
    refine o_ev (ev_move rfl) rfl ?_
    refine o_nil (sq_n (w_block (?_)))
    refine w_loop (Nat) (fun i => i ≤ xs.length) (fun i => [(0, s.val), (1, s2.val), (14, .int .i64 ((xs.length : Nat) : Int)), (15, .int .i64 ((i : Nat) : Int))]) (fun _ => H) (fun i => xs.length - i) (0) ?_ ?_ ?_ ?_
    · (try dsimp only)
      exact Nat.zero_le _
    · repeat (first | exact Sub.nil | refine Sub.cons rfl ?_)
    · (try dsimp only)
      (repeat (first | exact Ka | refine Kb ?_ | refine Kc ?_ | refine Kf ?_ | refine Kd ?_ | refine Ke ?_ | refine Kh ?_ | refine Kg rfl ?_ | refine Ki ?_ | refine Kj ?_ | refine Kk ?_ | refine Kl ?_ | refine Km ?_ | refine Kn ?_ | refine Ko ?_))
    · rintro i hi
      (try dsimp only at *)
      refine w_seq (w_region (?_))
      refine o_ev (ev_lss rfl rfl) rfl ?_
      refine o_nil (sq_n (w_seq (?_)))
      refine w_if rfl (fun h2 => ?_) (fun h2 => ?_)
      · skip
        try simp only [Za, Zb, Zc, Zd, Ze, Zf, Zg, Zh] at h2
        obtain ⟨x, hx⟩ : ∃ x, xs[i]? = some x := ⟨_, List.getElem?_eq_getElem (by omega)⟩
        have hy : ys[i]? = some x := by rw [← hys, List.getElem?_append_left (by omega), hx]
        refine w_skip (sq_n (w_seq (w_block (w_seq (w_region (?_))))))
        refine o_ev (ev_move rfl) rfl ?_
        refine o_ev (ev_assign rfl) rfl ?_
        refine o_nil (sq_n (w_seq (?_)))
        refine w_still Tryz_mixed ?_
        refine an_first 0 rfl rfl (by kernel_rfl) rfl (qv_at (ev_move rfl)) ?_
        refine an_first 1 rfl rfl (by kernel_rfl) rfl (qv_at (ev_move rfl)) ?_
        refine an_first 2 rfl rfl (by kernel_rfl) rfl (qv_at (ev_indexAddr rfl rfl i rfl (by omega))) ?_
        refine an_first 3 rfl rfl (by kernel_rfl) rfl (qv_at (ev_load_el rfl (by rfl) (by rfl) x hy)) ?_
        refine an_first 4 rfl rfl (by kernel_rfl) rfl (qv_at (ev_move rfl)) ?_
        refine an_first 5 rfl rfl (by kernel_rfl) rfl (qv_at (ev_move rfl)) ?_
        refine an_first 6 rfl rfl (by kernel_rfl) rfl (qv_at (ev_indexAddr rfl rfl i rfl (by omega))) ?_
        refine an_first 7 rfl rfl (by kernel_rfl) rfl (qv_at (ev_load_el rfl (by rfl) (by rfl) x hx)) ?_
        refine an_first 8 rfl rfl (by kernel_rfl) rfl (qv_at (ev_neq rfl rfl)) ?_
        refine an_nil (by kernel_rfl) (fun _ _ => rfl) (sq_n (?_))
        refine w_if rfl (fun h3 => ?_) (fun h3 => ?_)
        · skip
          try simp only [Za, Zb, Zc, Zd, Ze, Zf, Zg, Zh] at h3
          exact absurd h3 (by simp) -- DONE
        · skip
          try simp only [Za, Zb, Zc, Zd, Ze, Zf, Zg, Zh] at h3
          refine w_skip (bk_n (sq_n (w_region (?_))))
          refine o_ev (ev_add rfl rfl (by omega)) rfl ?_
          refine o_ev (ev_move rfl) rfl ?_
          refine o_nil (?_)
          skip
          refine lq_n (i + 1) ?_ ?_ ?_ ?_
          · (try dsimp only)
            omega
          · (try dsimp only)
            omega
          · repeat (first | exact Sub.nil | refine Sub.cons rfl ?_)
          · (try dsimp only)
            (repeat (first | exact Ka | refine Kb ?_ | refine Kc ?_ | refine Kf ?_ | refine Kd ?_ | refine Ke ?_ | refine Kh ?_ | refine Kg rfl ?_ | refine Ki ?_ | refine Kj ?_ | refine Kk ?_ | refine Kl ?_ | refine Km ?_ | refine Kn ?_ | refine Ko ?_))
      · skip
        try simp only [Za, Zb, Zc, Zd, Ze, Zf, Zg, Zh] at h2
        refine w_exit (sq_e (lq_e (bk_h (sq_n (w_seq (w_seq (w_region (?_))))))))
        refine o_ev (ev_assign rfl) rfl ?_
        refine o_nil (sq_n (w_block (?_)))
        refine w_loop (Nat) (fun i => i ≤ 80) (fun i => [(0, s.val), (1, s2.val), (6, .int .i64 ((i : Nat) : Int))]) (fun _ => H) (fun i => 80 - i) (0) ?_ ?_ ?_ ?_
        · (try dsimp only)
          exact Nat.zero_le _
        · repeat (first | exact Sub.nil | refine Sub.cons rfl ?_)
        · (try dsimp only)
          (repeat (first | exact Ka | refine Kb ?_ | refine Kc ?_ | refine Kf ?_ | refine Kd ?_ | refine Ke ?_ | refine Kh ?_ | refine Kg rfl ?_ | refine Ki ?_ | refine Kj ?_ | refine Kk ?_ | refine Kl ?_ | refine Km ?_ | refine Kn ?_ | refine Ko ?_))
        · rintro j hj
          (try dsimp only at *)
          refine w_seq (w_seq (w_region (?_)))
          refine o_ev (ev_move rfl) rfl ?_
          refine o_ev (ev_lss rfl rfl) rfl ?_
          refine o_nil (sq_n (?_))
          refine w_if rfl (fun h4 => ?_) (fun h4 => ?_)
          · skip
            try simp only [Za, Zb, Zc, Zd, Ze, Zf, Zg, Zh] at h4
            have hz : ys[xs.length + j]? = some (mkN 7 j % 256) := by rw [← hys, List.getElem?_append_right (by omega), Nat.add_sub_cancel_left, mkB_get (by omega)]
            refine w_skip (sq_n (w_seq (w_block (w_seq (?_)))))
            refine w_still Tryz_mixed ?_
            refine an_first 0 rfl rfl (by kernel_rfl) rfl (qv_at (ev_move rfl)) ?_
            refine an_first 1 rfl rfl (by kernel_rfl) rfl (qv_at (ev_move rfl)) ?_
            refine an_first 2 rfl rfl (by kernel_rfl) rfl (qv_at (ev_len1 rfl)) ?_
            refine an_first 3 rfl rfl (by kernel_rfl) rfl (qv_at (ev_move rfl)) ?_
            refine an_first 4 rfl rfl (by kernel_rfl) rfl (qv_at (ev_add rfl rfl (by omega))) ?_
            refine an_first 5 rfl rfl (by kernel_rfl) rfl (qv_at (ev_indexAddr rfl rfl (xs.length + j) (by omega) (by omega))) ?_
            refine an_first 6 rfl rfl (by kernel_rfl) rfl (qv_at (ev_load_el rfl (by rfl) (by rfl) _ hz)) ?_
            refine an_first 7 rfl rfl (by kernel_rfl) rfl (qv_at (ev_move rfl)) ?_
            refine an_first 8 rfl rfl (by kernel_rfl) rfl (qv_call (vs := [_, _]) rfl (markPr (i := 7) (j := j) (by decide) (by omega))) ?_
            refine an_first 9 rfl rfl (by kernel_rfl) rfl (qv_at (ev_convM 256 rfl rfl rfl (mkN 7 j) rfl)) ?_
            refine an_first 10 rfl rfl (by kernel_rfl) rfl (qv_at (ev_neq rfl rfl)) ?_
            refine an_nil (by kernel_rfl) (fun _ _ => rfl) (sq_n (?_))
            refine w_if rfl (fun h5 => ?_) (fun h5 => ?_)
            · skip
              try simp only [Za, Zb, Zc, Zd, Ze, Zf, Zg, Zh] at h5
              exact absurd h5 (by simp) -- DONE
            · skip
              try simp only [Za, Zb, Zc, Zd, Ze, Zf, Zg, Zh] at h5
              refine w_skip (bk_n (sq_n (w_region (?_))))
              refine o_ev (ev_move rfl) rfl ?_
              refine o_ev (ev_add rfl rfl (by omega)) rfl ?_
              refine o_ev (ev_assign rfl) rfl ?_
              refine o_nil (?_)
              skip
              refine lq_n (j + 1) ?_ ?_ ?_ ?_
              · (try dsimp only)
                omega
              · (try dsimp only)
                omega
              · repeat (first | exact Sub.nil | refine Sub.cons rfl ?_)
              · (try dsimp only)
                (repeat (first | exact Ka | refine Kb ?_ | refine Kc ?_ | refine Kf ?_ | refine Kd ?_ | refine Ke ?_ | refine Kh ?_ | refine Kg rfl ?_ | refine Ki ?_ | refine Kj ?_ | refine Kk ?_ | refine Kl ?_ | refine Km ?_ | refine Kn ?_ | refine Ko ?_))
          · skip
            try simp only [Za, Zb, Zc, Zd, Ze, Zf, Zg, Zh] at h4
            refine w_exit (sq_e (lq_e (bk_h (sq_n (w_seq (w_region (?_)))))))
            refine o_ev (ev_assign rfl) rfl ?_
            refine o_nil (sq_n (w_ret (?_)))
            refine res_intro (vs := [_]) Tryz.results18 (.inr rfl) (.cons (.tmp rfl) (.nil)) ?_
            exact ⟨_, Ka, rfl, rfl⟩

theorem keptI {G : Base} {H : Heap} {s s2 : SV} {xs : List Int} [Sl H s eI (xs ++ mkI 80)] [Sl H s2 eI xs] (hn : xs.length ≤ 100000000000) : SC G Tryz.prog 19 [s.val, s2.val] H (fun v H' => v = .bool true ∧ H' = H) := by
  have hl : (xs ++ mkI 80).length = xs.length + 80 := by rw [List.length_append, mkI_len]
  revert hl
  generalize hys : xs ++ mkI 80 = ys at *
  intro hl
  refine SC.out (sc_walk Tryz.func19 rfl Tryz.ntmps19 (by kernel_rfl) (Nat.le_of_ble_eq_true rfl) ?_)
  refine w_seq (w_region (?_))
  refine o_ev (ev_assign rfl) rfl ?_
  refine o_nil (sq_n (w_seq (w_seq (w_region (?_)))))
  refine o_ev (ev_move rfl) rfl ?_
  refine o_ev (ev_len1 rfl) rfl ?_
  refine o_ev (ev_move rfl) rfl ?_
  refine o_ev (ev_len1 rfl) rfl ?_
  refine o_ev (ev_add rfl rfl (by omega)) rfl ?_
  refine o_ev (ev_neq rfl rfl) rfl ?_
  refine o_nil (sq_n (?_))
  refine w_if rfl (fun h1 => ?_) (fun h1 => ?_)
  · skip
    try simp only [Za, Zb, Zc, Zd, Ze, Zf, Zg, Zh] at h1
    exact absurd h1 (by omega) -- DONE
  · skip
    try simp only [Za, Zb, Zc, Zd, Ze, Zf, Zg, Zh] at h1
    refine w_skip (sq_n (w_seq (w_seq (w_region (?_)))))
    refine o_ev (ev_move rfl) rfl ?_
    refine o_ev (ev_len1 rfl) rfl ?_
    refine o_ev (ev_move rfl) rfl ?_
    refine o_nil (sq_n (w_block (?_)))
    refine w_loop (Nat) (fun i => i ≤ xs.length) (fun i => [(0, s.val), (1, s2.val), (14, .int .i64 ((xs.length : Nat) : Int)), (15, .int .i64 ((i : Nat) : Int))]) (fun _ => H) (fun i => xs.length - i) (0) ?_ ?_ ?_ ?_
    · (try dsimp only)
      exact Nat.zero_le _
    · repeat (first | exact Sub.nil | refine Sub.cons rfl ?_)
    · (try dsimp only)
      (repeat (first | exact Ka | refine Kb ?_ | refine Kc ?_ | refine Kf ?_ | refine Kd ?_ | refine Ke ?_ | refine Kh ?_ | refine Kg rfl ?_ | refine Ki ?_ | refine Kj ?_ | refine Kk ?_ | refine Kl ?_ | refine Km ?_ | refine Kn ?_ | refine Ko ?_))
    · rintro i hi
      (try dsimp only at *)
      refine w_seq (w_region (?_))
      refine o_ev (ev_lss rfl rfl) rfl ?_
      refine o_nil (sq_n (w_seq (?_)))
      refine w_if rfl (fun h2 => ?_) (fun h2 => ?_)
      · skip
        try simp only [Za, Zb, Zc, Zd, Ze, Zf, Zg, Zh] at h2
        obtain ⟨x, hx⟩ : ∃ x, xs[i]? = some x := ⟨_, List.getElem?_eq_getElem (by omega)⟩
        have hy : ys[i]? = some x := by rw [← hys, List.getElem?_append_left (by omega), hx]
        refine w_skip (sq_n (w_seq (w_block (w_seq (w_region (?_))))))
        refine o_ev (ev_move rfl) rfl ?_
        refine o_ev (ev_assign rfl) rfl ?_
        refine o_nil (sq_n (w_seq (?_)))
        refine w_still Tryz_mixed ?_
        refine an_first 0 rfl rfl (by kernel_rfl) rfl (qv_at (ev_move rfl)) ?_
        refine an_first 1 rfl rfl (by kernel_rfl) rfl (qv_at (ev_move rfl)) ?_
        refine an_first 2 rfl rfl (by kernel_rfl) rfl (qv_at (ev_indexAddr rfl rfl i rfl (by omega))) ?_
        refine an_first 3 rfl rfl (by kernel_rfl) rfl (qv_at (ev_load_el rfl (by rfl) (by rfl) x hy)) ?_
        refine an_first 4 rfl rfl (by kernel_rfl) rfl (qv_at (ev_move rfl)) ?_
        refine an_first 5 rfl rfl (by kernel_rfl) rfl (qv_at (ev_move rfl)) ?_
        refine an_first 6 rfl rfl (by kernel_rfl) rfl (qv_at (ev_indexAddr rfl rfl i rfl (by omega))) ?_
        refine an_first 7 rfl rfl (by kernel_rfl) rfl (qv_at (ev_load_el rfl (by rfl) (by rfl) x hx)) ?_
        refine an_first 8 rfl rfl (by kernel_rfl) rfl (qv_at (ev_neq rfl rfl)) ?_
        refine an_nil (by kernel_rfl) (fun _ _ => rfl) (sq_n (?_))
        refine w_if rfl (fun h3 => ?_) (fun h3 => ?_)
        · skip
          try simp only [Za, Zb, Zc, Zd, Ze, Zf, Zg, Zh] at h3
          exact absurd h3 (by simp) -- DONE
        · skip
          try simp only [Za, Zb, Zc, Zd, Ze, Zf, Zg, Zh] at h3
          refine w_skip (bk_n (sq_n (w_region (?_))))
          refine o_ev (ev_add rfl rfl (by omega)) rfl ?_
          refine o_ev (ev_move rfl) rfl ?_
          refine o_nil (?_)
          skip
          refine lq_n (i + 1) ?_ ?_ ?_ ?_
          · (try dsimp only)
            omega
          · (try dsimp only)
            omega
          · repeat (first | exact Sub.nil | refine Sub.cons rfl ?_)
          · (try dsimp only)
            (repeat (first | exact Ka | refine Kb ?_ | refine Kc ?_ | refine Kf ?_ | refine Kd ?_ | refine Ke ?_ | refine Kh ?_ | refine Kg rfl ?_ | refine Ki ?_ | refine Kj ?_ | refine Kk ?_ | refine Kl ?_ | refine Km ?_ | refine Kn ?_ | refine Ko ?_))
      · skip
        try simp only [Za, Zb, Zc, Zd, Ze, Zf, Zg, Zh] at h2
        refine w_exit (sq_e (lq_e (bk_h (sq_n (w_seq (w_seq (w_region (?_))))))))
        refine o_ev (ev_assign rfl) rfl ?_
        refine o_nil (sq_n (w_block (?_)))
        refine w_loop (Nat) (fun i => i ≤ 80) (fun i => [(0, s.val), (1, s2.val), (6, .int .i64 ((i : Nat) : Int))]) (fun _ => H) (fun i => 80 - i) (0) ?_ ?_ ?_ ?_
        · (try dsimp only)
          exact Nat.zero_le _
        · repeat (first | exact Sub.nil | refine Sub.cons rfl ?_)
        · (try dsimp only)
          (repeat (first | exact Ka | refine Kb ?_ | refine Kc ?_ | refine Kf ?_ | refine Kd ?_ | refine Ke ?_ | refine Kh ?_ | refine Kg rfl ?_ | refine Ki ?_ | refine Kj ?_ | refine Kk ?_ | refine Kl ?_ | refine Km ?_ | refine Kn ?_ | refine Ko ?_))
        · rintro j hj
          (try dsimp only at *)
          refine w_seq (w_seq (w_region (?_)))
          refine o_ev (ev_move rfl) rfl ?_
          refine o_ev (ev_lss rfl rfl) rfl ?_
          refine o_nil (sq_n (?_))
          refine w_if rfl (fun h4 => ?_) (fun h4 => ?_)
          · skip
            try simp only [Za, Zb, Zc, Zd, Ze, Zf, Zg, Zh] at h4
            have hz : ys[xs.length + j]? = some (((mkN 7 j : Nat) : Int)) := by rw [← hys, List.getElem?_append_right (by omega), Nat.add_sub_cancel_left, mkI_get (by omega)]
            refine w_skip (sq_n (w_seq (w_block (w_seq (?_)))))
            refine w_still Tryz_mixed ?_
            refine an_first 0 rfl rfl (by kernel_rfl) rfl (qv_at (ev_move rfl)) ?_
            refine an_first 1 rfl rfl (by kernel_rfl) rfl (qv_at (ev_move rfl)) ?_
            refine an_first 2 rfl rfl (by kernel_rfl) rfl (qv_at (ev_len1 rfl)) ?_
            refine an_first 3 rfl rfl (by kernel_rfl) rfl (qv_at (ev_move rfl)) ?_
            refine an_first 4 rfl rfl (by kernel_rfl) rfl (qv_at (ev_add rfl rfl (by omega))) ?_
            refine an_first 5 rfl rfl (by kernel_rfl) rfl (qv_at (ev_indexAddr rfl rfl (xs.length + j) (by omega) (by omega))) ?_
            refine an_first 6 rfl rfl (by kernel_rfl) rfl (qv_at (ev_load_el rfl (by rfl) (by rfl) _ hz)) ?_
            refine an_first 7 rfl rfl (by kernel_rfl) rfl (qv_at (ev_move rfl)) ?_
            refine an_first 8 rfl rfl (by kernel_rfl) rfl (qv_call (vs := [_, _]) rfl (markPr (i := 7) (j := j) (by decide) (by omega))) ?_
            refine an_first 9 rfl rfl (by kernel_rfl) rfl (qv_at (ev_neq rfl rfl)) ?_
            refine an_nil (by kernel_rfl) (fun _ _ => rfl) (sq_n (?_))
            refine w_if rfl (fun h5 => ?_) (fun h5 => ?_)
            · skip
              try simp only [Za, Zb, Zc, Zd, Ze, Zf, Zg, Zh] at h5
              exact absurd h5 (by simp) -- DONE
            · skip
              try simp only [Za, Zb, Zc, Zd, Ze, Zf, Zg, Zh] at h5
              refine w_skip (bk_n (sq_n (w_region (?_))))
              refine o_ev (ev_move rfl) rfl ?_
              refine o_ev (ev_add rfl rfl (by omega)) rfl ?_
              refine o_ev (ev_assign rfl) rfl ?_
              refine o_nil (?_)
              skip
              refine lq_n (j + 1) ?_ ?_ ?_ ?_
              · (try dsimp only)
                omega
              · (try dsimp only)
                omega
              · repeat (first | exact Sub.nil | refine Sub.cons rfl ?_)
              · (try dsimp only)
                (repeat (first | exact Ka | refine Kb ?_ | refine Kc ?_ | refine Kf ?_ | refine Kd ?_ | refine Ke ?_ | refine Kh ?_ | refine Kg rfl ?_ | refine Ki ?_ | refine Kj ?_ | refine Kk ?_ | refine Kl ?_ | refine Km ?_ | refine Kn ?_ | refine Ko ?_))
          · skip
            try simp only [Za, Zb, Zc, Zd, Ze, Zf, Zg, Zh] at h4
            refine w_exit (sq_e (lq_e (bk_h (sq_n (w_seq (w_region (?_)))))))
            refine o_ev (ev_assign rfl) rfl ?_
            refine o_nil (sq_n (w_ret (?_)))
            refine res_intro (vs := [_]) Tryz.results19 (.inr rfl) (.cons (.tmp rfl) (.nil)) ?_
            exact ⟨_, Ka, rfl, rfl⟩
end Go.Sx
