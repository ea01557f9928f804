import Derived.Test.YtcbidldebfibkaaGreatDoorW4
set_option linter.unusedVariables false
set_option linter.unusedSimpArgs false
set_option linter.unusedSectionVars false
set_option linter.unnecessarySimpa false
namespace Go.Sx
open Go Go.Proofs
set_option maxRecDepth 100000
set_option linter.unusedSimpArgs false
set_option linter.unusedVariables false

theorem packDead {G : Base} {H : Heap} {s : SV} {l : List Int} [hg : Glb G H] [Sl H s eI l] (hm : l.length ≤ 10000000000) (hl : ∀ x ∈ l, x ≤ 9223372036854775807) : SC G Tryz.prog 39 [s.val] H (fun v H' =>
    (below l = true ∧ v = .tuple #[.slice none 0 0, G.err 1] ∧ H' = H) ∨ (below l = false ∧ rise l = false ∧ v = .tuple #[.slice none 0 0, G.err 5] ∧ H' = H) ∨ (below l = false ∧ rise l = true ∧ ∃ s' : SV, v = .tuple #[s'.val, .nilIface] ∧ H' = Row s' eB (uv l.length ++ riseB (-1) l) :: H)) := by
  refine SC.out (sc_walk Tryz.func39 rfl Tryz.ntmps39 (by kernel_rfl) (Nat.le_of_ble_eq_true rfl) ?_)
  refine w_seq (w_region (?_))
  refine o_ev (ev_assign rfl) rfl ?_
  refine o_ev (ev_assign rfl) rfl ?_
  refine o_nil (sq_n (w_seq (w_seq (w_region (?_)))))
  refine o_ev (ev_move rfl) rfl ?_
  refine o_ev (ev_len1 rfl) rfl ?_
  refine o_ev (ev_move rfl) rfl ?_
  refine o_nil (sq_n (w_block (?_)))
  refine w_loop (Nat) (fun i => i ≤ l.length ∧ ∀ j x, j < i → l[j]? = some x → 0 ≤ x) (fun i => [(0, s.val), (7, s.val), (8, .int .i64 ((l.length : Nat) : Int)), (9, .int .i64 ((i : Nat) : Int))]) (fun _ => H) (fun i => l.length - i) (0) ?_ ?_ ?_ ?_
  · (try dsimp only)
    exact ⟨Nat.zero_le _, fun j x h => absurd h (Nat.not_lt_zero _)⟩
  · repeat (first | exact Sub.nil | refine Sub.cons rfl ?_)
  · (try dsimp only)
    (repeat (first | exact Ka | refine Kb ?_ | refine Kc ?_ | refine Kf ?_ | refine Kd ?_ | refine Ke ?_ | refine Kh ?_ | refine Kg rfl ?_ | refine Ki ?_ | refine Kj ?_ | refine Kk ?_ | refine Kl ?_ | refine Km ?_ | refine Kn ?_ | refine Ko ?_))
  · rintro i ⟨hi, hall⟩
    (try dsimp only at *)
    refine w_seq (w_region (?_))
    refine o_ev (ev_lss rfl rfl) rfl ?_
    refine o_nil (sq_n (w_seq (?_)))
    refine w_if rfl (fun h1 => ?_) (fun h1 => ?_)
    · skip
      try simp only [Za, Zb, Zc, Zd, Ze, Zf, Zg, Zh] at h1
      obtain ⟨x, hx⟩ : ∃ x, l[i]? = some x := ⟨_, List.getElem?_eq_getElem (by omega)⟩
      refine w_skip (sq_n (w_seq (w_block (w_seq (w_region (?_))))))
      refine o_ev (ev_indexAddr rfl rfl _ rfl (by omega)) rfl ?_
      refine o_ev (ev_load_el rfl (by rfl) (by rfl) _ (by first | assumption | rfl | exact List.getElem?_eq_getElem (by omega))) rfl ?_
      refine o_ev (ev_assign rfl) rfl ?_
      refine o_nil (sq_n (w_seq (w_region (?_))))
      refine o_ev (ev_move rfl) rfl ?_
      refine o_ev (ev_lss rfl rfl) rfl ?_
      refine o_nil (sq_n (?_))
      refine w_if rfl (fun h2 => ?_) (fun h2 => ?_)
      · skip
        try simp only [Za, Zb, Zc, Zd, Ze, Zf, Zg, Zh] at h2
        refine w_seq (?_)
        refine w_still Tryz_mixed ?_
        refine an_first 0 rfl rfl (by kernel_rfl) rfl (qv_at (ev_load rfl)) ?_
        refine an_first 1 rfl rfl (by kernel_rfl) rfl (qv_at (ev_assign rfl)) ?_
        refine an_first 2 rfl rfl (by kernel_rfl) rfl (qv_at (ev_assign rfl)) ?_
        refine an_nil (by kernel_rfl) (fun _ _ => rfl) (sq_n (w_ret (bk_r (sq_r (lq_r (bk_r (sq_r (?_))))))))
        refine res_intro (vs := [_, _]) Tryz.results39 (.inr rfl) (.cons (.tmp rfl) (.cons (.tmp rfl) (.nil))) ?_
        exact ⟨_, Ka, .inl ⟨below_true hx h2, rfl, rfl⟩⟩
      · skip
        try simp only [Za, Zb, Zc, Zd, Ze, Zf, Zg, Zh] at h2
        refine w_skip (bk_n (sq_n (w_region (?_))))
        refine o_ev (ev_add rfl rfl (by omega)) rfl ?_
        refine o_ev (ev_move rfl) rfl ?_
        refine o_nil (?_)
        skip
        refine lq_n (i + 1) ?_ ?_ ?_ ?_
        · (try dsimp only)
          refine ⟨by omega, fun j y hj hy => ?_⟩
          rcases Nat.lt_or_eq_of_le (Nat.le_of_lt_succ hj) with h | rfl
          · exact hall j y h hy
          · rw [hx] at hy; cases hy; omega
        · (try dsimp only)
          omega
        · repeat (first | exact Sub.nil | refine Sub.cons rfl ?_)
        · (try dsimp only)
          (repeat (first | exact Ka | refine Kb ?_ | refine Kc ?_ | refine Kf ?_ | refine Kd ?_ | refine Ke ?_ | refine Kh ?_ | refine Kg rfl ?_ | refine Ki ?_ | refine Kj ?_ | refine Kk ?_ | refine Kl ?_ | refine Km ?_ | refine Kn ?_ | refine Ko ?_))
    · skip
      try simp only [Za, Zb, Zc, Zd, Ze, Zf, Zg, Zh] at h1
      have hb : below l = false := (below_iff l).2 fun j x hx => hall j x (by have := (List.getElem?_eq_some_iff.1 hx).1; omega) hx
      refine w_exit (sq_e (lq_e (bk_h (sq_n (w_seq (w_region (?_)))))))
      refine o_st (st_call (vs := []) rfl (newWriter)) rfl ?_
      rintro _ _ ⟨b1, rfl, rfl⟩
      refine o_ev (ev_assign rfl) rfl ?_
      refine o_nil (sq_n (w_seq (w_seq (w_region (?_)))))
      refine o_ev (ev_move rfl) rfl ?_
      refine o_ev (ev_move rfl) rfl ?_
      refine o_st (st_call (vs := [_, _]) rfl (wRising (by simp) hm hl)) rfl ?_
      rintro v1 H1 hK
      rcases hK with ⟨hbt, _, _⟩ | ⟨_, hr, rfl, rfl⟩ | ⟨_, hr, rfl, rfl⟩
      · skip
        exact absurd hbt (by rw [hb]; simp) -- DONE
      · skip
        refine o_ev (ev_neq_nil_val rfl) rfl ?_
        refine o_nil (sq_n (?_))
        refine w_if_true rfl (w_seq (?_))
        refine w_still Tryz_mixed ?_
        refine an_first 0 rfl rfl (by kernel_rfl) rfl (qv_at (ev_load rfl)) ?_
        refine an_first 1 rfl rfl (by kernel_rfl) rfl (qv_at (ev_assign rfl)) ?_
        refine an_first 2 rfl rfl (by kernel_rfl) rfl (qv_at (ev_assign rfl)) ?_
        refine an_nil (by kernel_rfl) (fun _ _ => rfl) (sq_n (w_ret (sq_r (?_))))
        refine res_intro (vs := [_, _]) Tryz.results39 (.inr rfl) (.cons (.tmp rfl) (.cons (.tmp rfl) (.nil))) ?_
        exact ⟨_, by (repeat (first | exact Ka | refine Kb ?_ | refine Kc ?_ | refine Kf ?_ | refine Kd ?_ | refine Ke ?_ | refine Kh ?_ | refine Kg rfl ?_ | refine Ki ?_ | refine Kj ?_ | refine Kk ?_ | refine Kl ?_ | refine Km ?_ | refine Kn ?_ | refine Ko ?_)), .inr (.inl ⟨hb, hr, rfl, rfl⟩)⟩
      · skip
        have hlen : (([] : List Nat) ++ (uv l.length ++ riseB (-1) l)).length ≤ 1000000000000 := by
          have h1 := riseB_len hb hl
          have h2 := uv_len10 (n := l.length) (by omega)
          simp only [List.length_append, List.length_nil]; omega
        refine o_ev (ev_neq_nil_nil rfl) rfl ?_
        refine o_nil (sq_n (?_))
        refine w_if_false rfl (w_skip (sq_n (w_seq (w_region (?_)))))
        refine o_ev (ev_move rfl) rfl ?_
        refine o_st (st_call (vs := [_]) rfl (wBytes hlen)) rfl ?_
        rintro _ _ ⟨s1, rfl, rfl⟩
        refine o_ev (ev_assign rfl) rfl ?_
        refine o_ev (ev_assign rfl) rfl ?_
        refine o_nil (sq_n (w_ret (?_)))
        refine res_intro (vs := [_, _]) Tryz.results39 (.inr rfl) (.cons (.tmp rfl) (.cons (.tmp rfl) (.nil))) ?_
        exact ⟨_, by (repeat (first | exact Ka | refine Kb ?_ | refine Kc ?_ | refine Kf ?_ | refine Kd ?_ | refine Ke ?_ | refine Kh ?_ | refine Kg rfl ?_ | refine Ki ?_ | refine Kj ?_ | refine Kk ?_ | refine Kl ?_ | refine Km ?_ | refine Kn ?_ | refine Ko ?_)), .inr (.inr ⟨hb, hr, s1, rfl, rfl⟩)⟩
end Go.Sx
namespace Go.Sx
open Go Go.Proofs
set_option maxRecDepth 100000
set_option linter.unusedSimpArgs false
set_option linter.unusedVariables false

/-! ## Reading numbers -/
/-- The number with which the bytes begin (the first of them is digit i), and how many bytes it has; or the error. -/
def rdUv : Nat → List Nat → Except Nat (Nat × Nat)
  | _, [] => .error 2
  | i, x :: r => if i = 9 ∧ 1 < x then .error 3 else if 128 ≤ x then
      (match rdUv (i + 1) r with
      | .ok (v, n) => .ok (x % 128 + 128 * v, n + 1)
      | .error e => .error e)
    else if x = 0 ∧ 0 < i then .error 3 else .ok (x, 1)
theorem pow_step : ∀ i : Fin 9, 2 ^ (64 - 7 * i.val) = 128 * 2 ^ (64 - 7 * (i.val + 1)) := by decide
theorem rdUv_ok : ∀ (l : List Nat) (i v n : Nat), (∀ x ∈ l, x < 256) → i ≤ 9 → rdUv i l = .ok (v, n) →
    v < 2 ^ (64 - 7 * i) ∧ 1 ≤ n ∧ n + i ≤ 10 ∧ n ≤ l.length ∧ l.take n = uv v ∧ (0 < i → 0 < v)
  | [], i, v, n, _, _, h => by cases h
  | x :: r, i, v, n, hb, hi, h => by
    have hx := hb x (by simp)
    rw [rdUv] at h
    split at h
    · cases h
    · rename_i h9
      split at h
      · rename_i hx2
        have hi9 : i ≤ 8 := by omega
        split at h
        · rename_i v' n' hr
          obtain ⟨h1, h2, h3, h4, h5, h6⟩ := rdUv_ok r (i + 1) v' n' (fun y hy => hb y (by simp [hy])) (by omega) hr
          have h7 := h6 (by omega)
          have h8 := pow_step ⟨i, by omega⟩
          simp only at h8
          simp only [Except.ok.injEq, Prod.mk.injEq] at h
          obtain ⟨rfl, rfl⟩ := h
          refine ⟨by omega, by omega, by omega, by simp; omega, ?_, fun _ => by omega⟩
          rw [uv_big (n := x % 128 + 128 * v') (by omega), List.take_succ_cons, h5]
          congr 1
          · omega
          · congr 1; omega
        · cases h
      · split at h
        · cases h
        · rename_i hx2 hx0
          simp only [Except.ok.injEq, Prod.mk.injEq] at h
          obtain ⟨rfl, rfl⟩ := h
          refine ⟨?_, by omega, by omega, by simp, ?_, fun _ => by omega⟩
          · rcases Nat.lt_or_eq_of_le hi with h8 | rfl
            · have h8 := pow_step ⟨i, by omega⟩
              simp only at h8
              have : 0 < 2 ^ (64 - 7 * (i + 1)) := Nat.two_pow_pos _
              omega
            · simp; omega
          · rw [uv_small (by omega)]; simp
theorem rdUv_uv : ∀ (v i : Nat) (r : List Nat), i ≤ 9 → v < 2 ^ (64 - 7 * i) → (0 < i → 0 < v) → rdUv i (uv v ++ r) = .ok (v, (uv v).length) := by
  intro v
  induction v using Nat.strongRecOn with
  | _ v ih =>
    intro i r hi hv h0
    by_cases h : v < 128
    · rw [uv_small h]
      rw [List.singleton_append, rdUv, if_neg (by rintro ⟨rfl, h1⟩; simp at hv; omega), if_neg (by omega), if_neg (by rintro ⟨rfl, h2⟩; exact absurd (h0 h2) (Nat.lt_irrefl 0))]
      rfl
    · have hi8 : i ≤ 8 := by
        rcases Nat.lt_or_eq_of_le hi with h8 | rfl
        · omega
        · simp at hv; omega
      have h8 := pow_step ⟨i, by omega⟩
      simp only at h8
      rw [uv_big h, List.cons_append, rdUv, if_neg (by rintro ⟨rfl, _⟩; omega), if_pos (by omega)]
      rw [ih (v / 128) (by omega) (i + 1) r (by omega) (by omega) (fun _ => by omega)]
      simp only [List.length_cons, Except.ok.injEq, Prod.mk.injEq, and_true]
      omega

theorem left {G : Base} {H : Heap} {b : Nat} {k n : Int} {r : List Value} [HasV H b (.int .i64 k :: .int .i64 n :: r)] (h : -9223372036854775808 ≤ n - k ∧ n - k ≤ 9223372036854775807) : SC G Tryz.prog 118 [.pointer (some ⟨b, 0, none⟩)] H (fun v H' => v = .int .i64 (n - k) ∧ H' = H) := by
  refine SC.out (sc_walk Tryz.func118 rfl Tryz.ntmps118 (by kernel_rfl) (Nat.le_of_ble_eq_true rfl) ?_)
  refine w_seq (w_region (?_))
  refine o_ev (ev_assign rfl) rfl ?_
  refine o_nil (sq_n (w_seq (?_)))
  refine w_still Tryz_mixed ?_
  refine an_first 0 rfl rfl (by kernel_rfl) rfl (qv_at (ev_move rfl)) ?_
  refine an_first 1 rfl rfl (by kernel_rfl) rfl (qv_at (ev_nilCheck rfl)) ?_
  refine an_first 2 rfl rfl (by kernel_rfl) rfl (qv_at (ev_fieldAddr rfl)) ?_
  refine an_first 3 rfl rfl (by kernel_rfl) rfl (qv_at (ev_load rfl)) ?_
  refine an_first 4 rfl rfl (by kernel_rfl) rfl (qv_at (ev_move rfl)) ?_
  refine an_first 5 rfl rfl (by kernel_rfl) rfl (qv_at (ev_nilCheck rfl)) ?_
  refine an_first 6 rfl rfl (by kernel_rfl) rfl (qv_at (ev_fieldAddr rfl)) ?_
  refine an_first 7 rfl rfl (by kernel_rfl) rfl (qv_at (ev_load rfl)) ?_
  refine an_first 8 rfl rfl (by kernel_rfl) rfl (qv_at (ev_sub rfl rfl (by omega))) ?_
  refine an_first 9 rfl rfl (by kernel_rfl) rfl (qv_at (ev_assign rfl)) ?_
  refine an_nil (by kernel_rfl) (fun _ _ => rfl) (sq_n (w_ret (?_)))
  refine res_intro (vs := [_]) Tryz.results118 (.inr rfl) (.cons (.tmp rfl) (.nil)) ?_
  exact ⟨_, Ka, rfl, rfl⟩

theorem spanAt {G : Base} {H R : Heap} {b k : Nat} {xs : List Nat} [hr : Rem H Rd b (xs, k) R] : SC G Tryz.prog 82 [.pointer (some ⟨b, 0, none⟩)] H (fun v H' => v = .int .i64 ((k : Nat) : Int) ∧ H' = Rd b (xs, k) :: R) := by
  refine sc_rd hr fun s => ?_
  refine SC.out (sc_walk Tryz.func82 rfl Tryz.ntmps82 (by kernel_rfl) (Nat.le_of_ble_eq_true rfl) ?_)
  refine w_seq (w_region (?_))
  refine o_ev (ev_assign rfl) rfl ?_
  refine o_nil (sq_n (w_seq (w_region (?_))))
  refine o_ev (ev_move rfl) rfl ?_
  refine o_ev (ev_nilCheck rfl) rfl ?_
  refine o_ev (ev_fieldAddr rfl) rfl ?_
  refine o_ev (ev_load rfl) rfl ?_
  refine o_ev (ev_assign rfl) rfl ?_
  refine o_nil (sq_n (w_ret (?_)))
  refine res_intro (vs := [_]) Tryz.results82 (.inr rfl) (.cons (.tmp rfl) (.nil)) ?_
  exact ⟨_, by (repeat (first | exact Ka | refine Kb ?_ | refine Kc ?_ | refine Kf ?_ | refine Kd ?_ | refine Ke ?_ | refine Kh ?_ | refine Kg rfl ?_ | refine Ki ?_ | refine Kj ?_ | refine Kk ?_ | refine Kl ?_ | refine Km ?_ | refine Kn ?_ | refine Ko ?_)), rfl, rfl⟩

theorem spanDone {G : Base} {H R : Heap} {b k : Nat} {xs : List Nat} [hg : Glb G R] [hr : Rem H Rd b (xs, k) R] (hk : k ≤ xs.length) : SC G Tryz.prog 47 [.pointer (some ⟨b, 0, none⟩)] H (fun v H' => H' = Rd b (xs, k) :: R ∧ ((k < xs.length ∧ v = G.err 6) ∨ (k = xs.length ∧ v = .nilIface))) := by
  refine sc_rd hr fun s => ?_
  refine SC.out (sc_walk Tryz.func47 rfl Tryz.ntmps47 (by kernel_rfl) (Nat.le_of_ble_eq_true rfl) ?_)
  refine w_seq (w_region (?_))
  refine o_ev (ev_assign rfl) rfl ?_
  refine o_nil (sq_n (w_seq (w_seq (?_))))
  refine w_still Tryz_mixed ?_
  refine an_first 0 rfl rfl (by kernel_rfl) rfl (qv_at (ev_move rfl)) ?_
  refine an_first 1 rfl rfl (by kernel_rfl) rfl (qv_at (ev_nilCheck rfl)) ?_
  refine an_first 2 rfl rfl (by kernel_rfl) rfl (qv_at (ev_fieldAddr rfl)) ?_
  refine an_first 3 rfl rfl (by kernel_rfl) rfl (qv_at (ev_load rfl)) ?_
  refine an_first 4 rfl rfl (by kernel_rfl) rfl (qv_at (ev_move rfl)) ?_
  refine an_first 5 rfl rfl (by kernel_rfl) rfl (qv_at (ev_nilCheck rfl)) ?_
  refine an_first 6 rfl rfl (by kernel_rfl) rfl (qv_at (ev_fieldAddr rfl)) ?_
  refine an_first 7 rfl rfl (by kernel_rfl) rfl (qv_at (ev_load rfl)) ?_
  refine an_first 8 rfl rfl (by kernel_rfl) rfl (qv_at (ev_lss rfl rfl)) ?_
  refine an_nil (by kernel_rfl) (fun _ _ => rfl) (sq_n (?_))
  refine w_if rfl (fun h1 => ?_) (fun h1 => ?_)
  · skip
    try simp only [Za, Zb, Zc, Zd, Ze, Zf, Zg, Zh] at h1
    refine w_seq (w_region (?_))
    refine o_ev (ev_load rfl) rfl ?_
    refine o_ev (ev_assign rfl) rfl ?_
    refine o_nil (sq_n (w_ret (sq_r (?_))))
    refine res_intro (vs := [_]) Tryz.results47 (.inr rfl) (.cons (.tmp rfl) (.nil)) ?_
    exact ⟨_, by (repeat (first | exact Ka | refine Kb ?_ | refine Kc ?_ | refine Kf ?_ | refine Kd ?_ | refine Ke ?_ | refine Kh ?_ | refine Kg rfl ?_ | refine Ki ?_ | refine Kj ?_ | refine Kk ?_ | refine Kl ?_ | refine Km ?_ | refine Kn ?_ | refine Ko ?_)), rfl, .inl ⟨by omega, rfl⟩⟩
  · skip
    try simp only [Za, Zb, Zc, Zd, Ze, Zf, Zg, Zh] at h1
    refine w_skip (sq_n (w_seq (w_region (?_))))
    refine o_ev (ev_assign rfl) rfl ?_
    refine o_nil (sq_n (w_ret (?_)))
    refine res_intro (vs := [_]) Tryz.results47 (.inr rfl) (.cons (.tmp rfl) (.nil)) ?_
    exact ⟨_, by (repeat (first | exact Ka | refine Kb ?_ | refine Kc ?_ | refine Kf ?_ | refine Kd ?_ | refine Ke ?_ | refine Kh ?_ | refine Kg rfl ?_ | refine Ki ?_ | refine Kj ?_ | refine Kk ?_ | refine Kl ?_ | refine Km ?_ | refine Kn ?_ | refine Ko ?_)), rfl, .inr ⟨by omega, rfl⟩⟩

theorem rByte {G : Base} {H R : Heap} {b k : Nat} {xs : List Nat} [hg : Glb G R] [hr : Rem H Rd b (xs, k) R] (hk : k ≤ xs.length) (hn : xs.length ≤ 1000000000000) : SC G Tryz.prog 121 [.pointer (some ⟨b, 0, none⟩)] H (fun v H' =>
    (k = xs.length ∧ v = .tuple #[.int .u8 0, G.err 2] ∧ H' = Rd b (xs, k) :: R) ∨ (∃ x, xs[k]? = some x ∧ v = .tuple #[.int .u8 ((x : Nat) : Int), .nilIface] ∧ H' = Rd b (xs, k + 1) :: R)) := by
  refine sc_rd hr fun s => ?_
  refine SC.out (sc_walk Tryz.func121 rfl Tryz.ntmps121 (by kernel_rfl) (Nat.le_of_ble_eq_true rfl) ?_)
  refine w_seq (w_region (?_))
  refine o_ev (ev_assign rfl) rfl ?_
  refine o_ev (ev_assign rfl) rfl ?_
  refine o_nil (sq_n (w_seq (w_seq (w_region (?_)))))
  refine o_ev (ev_move rfl) rfl ?_
  refine o_ev (ev_nilCheck rfl) rfl ?_
  refine o_ev (ev_fieldAddr rfl) rfl ?_
  refine o_st (st_call (vs := [_]) rfl (left (by omega))) rfl ?_
  rintro _ _ ⟨rfl, rfl⟩
  refine o_ev (ev_eql rfl rfl) rfl ?_
  refine o_nil (sq_n (?_))
  refine w_if rfl (fun h1 => ?_) (fun h1 => ?_)
  · skip
    try simp only [Za, Zb, Zc, Zd, Ze, Zf, Zg, Zh] at h1
    refine w_seq (?_)
    refine w_still Tryz_mixed ?_
    refine an_first 0 rfl rfl (by kernel_rfl) rfl (qv_at (ev_load rfl)) ?_
    refine an_first 1 rfl rfl (by kernel_rfl) rfl (qv_at (ev_assign rfl)) ?_
    refine an_first 2 rfl rfl (by kernel_rfl) rfl (qv_at (ev_assign rfl)) ?_
    refine an_nil (by kernel_rfl) (fun _ _ => rfl) (sq_n (w_ret (sq_r (?_))))
    refine res_intro (vs := [_, _]) Tryz.results121 (.inr rfl) (.cons (.tmp rfl) (.cons (.tmp rfl) (.nil))) ?_
    exact ⟨_, by (repeat (first | exact Ka | refine Kb ?_ | refine Kc ?_ | refine Kf ?_ | refine Kd ?_ | refine Ke ?_ | refine Kh ?_ | refine Kg rfl ?_ | refine Ki ?_ | refine Kj ?_ | refine Kk ?_ | refine Kl ?_ | refine Km ?_ | refine Kn ?_ | refine Ko ?_)), .inl ⟨by omega, rfl, rfl⟩⟩
  · skip
    try simp only [Za, Zb, Zc, Zd, Ze, Zf, Zg, Zh] at h1
    obtain ⟨x, hx⟩ : ∃ x, xs[k]? = some x := ⟨_, List.getElem?_eq_getElem (by omega)⟩
    refine w_skip (sq_n (w_seq (w_region (?_))))
    refine o_ev (ev_move rfl) rfl ?_
    refine o_ev (ev_nilCheck rfl) rfl ?_
    refine o_ev (ev_fieldAddr rfl) rfl ?_
    refine o_ev (ev_fieldAddr rfl) rfl ?_
    refine o_ev (ev_load rfl) rfl ?_
    refine o_ev (ev_add rfl rfl (by omega)) rfl ?_
    refine o_ev (ev_nilCheck rfl) rfl ?_
    refine o_ev (ev_fieldAddr rfl) rfl ?_
    refine o_ev (ev_fieldAddr rfl) rfl ?_
    refine o_st (st_store rfl rfl rfl) rfl ?_
    rintro _ _ ⟨rfl, rfl⟩
    refine o_nil (sq_n (w_seq (?_)))
    refine w_still Tryz_mixed ?_
    refine an_first 0 rfl rfl (by kernel_rfl) rfl (qv_at (ev_move rfl)) ?_
    refine an_first 1 rfl rfl (by kernel_rfl) rfl (qv_at (ev_nilCheck rfl)) ?_
    refine an_first 2 rfl rfl (by kernel_rfl) rfl (qv_at (ev_fieldAddr rfl)) ?_
    refine an_first 3 rfl rfl (by kernel_rfl) rfl (qv_at (ev_load rfl)) ?_
    refine an_first 4 rfl rfl (by kernel_rfl) rfl (qv_at (ev_move rfl)) ?_
    refine an_first 5 rfl rfl (by kernel_rfl) rfl (qv_at (ev_nilCheck rfl)) ?_
    refine an_first 6 rfl rfl (by kernel_rfl) rfl (qv_at (ev_fieldAddr rfl)) ?_
    refine an_first 7 rfl rfl (by kernel_rfl) rfl (qv_at (ev_fieldAddr rfl)) ?_
    refine an_first 8 rfl rfl (by kernel_rfl) rfl (qv_at (ev_load rfl)) ?_
    refine an_first 9 rfl rfl (by kernel_rfl) rfl (qv_at (ev_sub rfl rfl (by omega))) ?_
    refine an_first 10 rfl rfl (by kernel_rfl) rfl (qv_at (ev_indexAddr rfl rfl k (by omega) (by omega))) ?_
    refine an_first 11 rfl rfl (by kernel_rfl) rfl (qv_at (ev_load_el rfl (by rfl) (by rfl) _ (by first | assumption | rfl | exact List.getElem?_eq_getElem (by omega)))) ?_
    refine an_first 12 rfl rfl (by kernel_rfl) rfl (qv_at (ev_assign rfl)) ?_
    refine an_first 13 rfl rfl (by kernel_rfl) rfl (qv_at (ev_assign rfl)) ?_
    refine an_nil (by kernel_rfl) (fun _ _ => rfl) (sq_n (w_ret (?_)))
    refine res_intro (vs := [_, _]) Tryz.results121 (.inr rfl) (.cons (.tmp rfl) (.cons (.tmp rfl) (.nil))) ?_
    exact ⟨_, by (repeat (first | exact Ka | refine Kb ?_ | refine Kc ?_ | refine Kf ?_ | refine Kd ?_ | refine Ke ?_ | refine Kh ?_ | refine Kg rfl ?_ | refine Ki ?_ | refine Kj ?_ | refine Kk ?_ | refine Kl ?_ | refine Km ?_ | refine Kn ?_ | refine Ko ?_)), .inr ⟨x, hx, rfl, rfl⟩⟩

theorem acc_or {v a i : Nat} (hv : v < 2 ^ (7 * i)) (ha : a * 2 ^ (7 * i) < 18446744073709551616) : v ||| (a * 2 ^ (7 * i)) = v + a * 2 ^ (7 * i) := by
  rw [Nat.or_comm, ← Nat.shiftLeft_eq, ← Nat.shiftLeft_add_eq_or_of_lt hv, Nat.shiftLeft_eq]; omega
theorem and127 (x : Nat) : x &&& 127 = x % 128 := Nat.and_two_pow_sub_one_eq_mod x 7
theorem sh_lt : ∀ i : Fin 10, (if i.val = 9 then 1 else 127) * 2 ^ (7 * i.val) < 18446744073709551616 := by decide
theorem sh_bound {x i : Nat} (hi : i ≤ 9) (h9 : i = 9 → x ≤ 1) : (x &&& 127) * 2 ^ (7 * i) < 18446744073709551616 := by
  have h := sh_lt ⟨i, by omega⟩
  simp only at h
  rw [and127]
  refine Nat.lt_of_le_of_lt (Nat.mul_le_mul_right _ ?_) h
  split
  · have := h9 (by assumption); omega
  · omega
theorem p7_aux : ∀ i : Fin 10, 2 ^ (7 * i.val) ≤ 9223372036854775808 := by decide
theorem p7 {i : Nat} (h : i ≤ 9) : 2 ^ (7 * i) ≤ 9223372036854775808 := p7_aux ⟨i, by omega⟩
def glue (v i : Nat) : Except Nat (Nat × Nat) → Except Nat (Nat × Nat)
  | .ok (w, n) => .ok (v + w * 2 ^ (7 * i), i + n)
  | .error e => .error e
end Go.Sx
namespace Go.Sx
open Go Go.Proofs
set_option maxRecDepth 100000
set_option linter.unusedSimpArgs false
set_option linter.unusedVariables false

theorem rUvarint {G : Base} {H R : Heap} {b k : Nat} {xs : List Nat} [hg : Glb G R] [hr : Rem H Rd b (xs, k) R] (hk : k ≤ xs.length) (hn : xs.length ≤ 1000000000000) (hb : ∀ x ∈ xs, x < 256) : SC G Tryz.prog 81 [.pointer (some ⟨b, 0, none⟩)] H (fun v H' =>
    (∃ e, rdUv 0 (xs.drop k) = .error e ∧ v = .tuple #[.int .u64 0, G.err e] ∧ H' = Rd b (xs, k) :: R) ∨ (∃ n m, rdUv 0 (xs.drop k) = .ok (n, m) ∧ v = .tuple #[.int .u64 ((n : Nat) : Int), .nilIface] ∧ H' = Rd b (xs, k + m) :: R)) := by
  refine sc_rd hr fun s => ?_
  refine SC.out (sc_walk Tryz.func81 rfl Tryz.ntmps81 (by kernel_rfl) (Nat.le_of_ble_eq_true rfl) ?_)
  refine w_seq (w_region (?_))
  refine o_ev (ev_assign rfl) rfl ?_
  refine o_ev (ev_assign rfl) rfl ?_
  refine o_nil (sq_n (w_seq (w_region (?_))))
  refine o_ev (ev_assign rfl) rfl ?_
  refine o_nil (sq_n (w_seq (w_region (?_))))
  refine o_ev (ev_assign rfl) rfl ?_
  refine o_nil (sq_n (w_block (?_)))
  refine w_loop (Nat × Nat) (fun y => y.1 ≤ 9 ∧ k + y.1 ≤ xs.length ∧ y.2 < 2 ^ (7 * y.1) ∧ rdUv 0 (xs.drop k) = glue y.2 y.1 (rdUv y.1 (xs.drop (k + y.1)))) (fun y => [(0, .pointer (some ⟨b, 0, none⟩)), (4, .int .u64 ((y.2 : Nat) : Int)), (5, .int .i64 ((y.1 : Nat) : Int))]) (fun _ => Vr b [.int .i64 ((k : Nat) : Int), .int .i64 ((xs.length : Nat) : Int), s.val] :: Row s eB xs :: R) (fun y => xs.length - y.1) ((0, 0)) ?_ ?_ ?_ ?_
  · (try dsimp only)
    refine ⟨Nat.zero_le _, hk, by decide, ?_⟩
    rw [Nat.add_zero]
    cases rdUv 0 (xs.drop k) with
    | ok p => simp [glue]
    | error e => rfl
  · repeat (first | exact Sub.nil | refine Sub.cons rfl ?_)
  · (try dsimp only)
    (repeat (first | exact Ka | refine Kb ?_ | refine Kc ?_ | refine Kf ?_ | refine Kd ?_ | refine Ke ?_ | refine Kh ?_ | refine Kg rfl ?_ | refine Ki ?_ | refine Kj ?_ | refine Kk ?_ | refine Kl ?_ | refine Km ?_ | refine Kn ?_ | refine Ko ?_))
  · rintro ⟨i, v⟩ ⟨hi, hki, hv, hI⟩
    (try dsimp only at *)
    refine w_seq (w_block (w_seq (w_seq (w_region (?_)))))
    refine o_ev (ev_move rfl) rfl ?_
    refine o_ev (ev_move rfl) rfl ?_
    refine o_ev (ev_nilCheck rfl) rfl ?_
    refine o_ev (ev_fieldAddr rfl) rfl ?_
    refine o_st (st_call (vs := [_]) rfl (left (by omega))) rfl ?_
    rintro _ _ ⟨rfl, rfl⟩
    refine o_ev (ev_geq rfl rfl) rfl ?_
    refine o_nil (sq_n (?_))
    refine w_if rfl (fun h1 => ?_) (fun h1 => ?_)
    · skip
      try simp only [Za, Zb, Zc, Zd, Ze, Zf, Zg, Zh] at h1
      have e2 : rdUv 0 (xs.drop k) = .error 2 := by rw [hI, List.drop_of_length_le (by omega)]; rfl
      refine w_seq (?_)
      refine w_still Tryz_mixed ?_
      refine an_first 0 rfl rfl (by kernel_rfl) rfl (qv_at (ev_load rfl)) ?_
      refine an_first 1 rfl rfl (by kernel_rfl) rfl (qv_at (ev_assign rfl)) ?_
      refine an_first 2 rfl rfl (by kernel_rfl) rfl (qv_at (ev_assign rfl)) ?_
      refine an_nil (by kernel_rfl) (fun _ _ => rfl) (sq_n (w_ret (sq_r (bk_r (sq_r (lq_r (bk_r (?_))))))))
      refine res_intro (vs := [_, _]) Tryz.results81 (.inr rfl) (.cons (.tmp rfl) (.cons (.tmp rfl) (.nil))) ?_
      exact ⟨_, by (repeat (first | exact Ka | refine Kb ?_ | refine Kc ?_ | refine Kf ?_ | refine Kd ?_ | refine Ke ?_ | refine Kh ?_ | refine Kg rfl ?_ | refine Ki ?_ | refine Kj ?_ | refine Kk ?_ | refine Kl ?_ | refine Km ?_ | refine Kn ?_ | refine Ko ?_)), .inl ⟨2, e2, rfl, rfl⟩⟩
    · skip
      try simp only [Za, Zb, Zc, Zd, Ze, Zf, Zg, Zh] at h1
      obtain ⟨x, hx⟩ : ∃ x, xs[k + i]? = some x := ⟨_, List.getElem?_eq_getElem (by omega)⟩
      have hxb := hb x (List.mem_of_getElem? hx)
      have hd : xs.drop (k + i) = x :: xs.drop (k + (i + 1)) := drop_get hx
      rw [hd, rdUv] at hI
      refine w_skip (sq_n (w_seq (?_)))
      refine w_still Tryz_mixed ?_
      refine an_first 0 rfl rfl (by kernel_rfl) rfl (qv_at (ev_move rfl)) ?_
      refine an_first 1 rfl rfl (by kernel_rfl) rfl (qv_at (ev_nilCheck rfl)) ?_
      refine an_first 2 rfl rfl (by kernel_rfl) rfl (qv_at (ev_fieldAddr rfl)) ?_
      refine an_first 3 rfl rfl (by kernel_rfl) rfl (qv_at (ev_load rfl)) ?_
      refine an_first 4 rfl rfl (by kernel_rfl) rfl (qv_at (ev_move rfl)) ?_
      refine an_first 5 rfl rfl (by kernel_rfl) rfl (qv_at (ev_nilCheck rfl)) ?_
      refine an_first 6 rfl rfl (by kernel_rfl) rfl (qv_at (ev_fieldAddr rfl)) ?_
      refine an_first 7 rfl rfl (by kernel_rfl) rfl (qv_at (ev_fieldAddr rfl)) ?_
      refine an_first 8 rfl rfl (by kernel_rfl) rfl (qv_at (ev_load rfl)) ?_
      refine an_first 9 rfl rfl (by kernel_rfl) rfl (qv_at (ev_move rfl)) ?_
      refine an_first 10 rfl rfl (by kernel_rfl) rfl (qv_at (ev_add rfl rfl (by omega))) ?_
      refine an_first 11 rfl rfl (by kernel_rfl) rfl (qv_at (ev_indexAddr rfl rfl (k + i) (by omega) (by omega))) ?_
      refine an_first 12 rfl rfl (by kernel_rfl) rfl (qv_at (ev_load_el rfl (by rfl) (by rfl) _ (by first | assumption | rfl | exact List.getElem?_eq_getElem (by omega)))) ?_
      refine an_first 13 rfl rfl (by kernel_rfl) rfl (qv_at (ev_assign rfl)) ?_
      refine an_nil (by kernel_rfl) (fun _ _ => rfl) (sq_n (w_seq (w_seq (w_region (?_)))))
      refine o_ev (ev_move rfl) rfl ?_
      refine o_ev (ev_eql rfl rfl) rfl ?_
      refine o_split (ev_move rfl) rfl (fun h2 => ?_) (fun h2 => ?_)
      · skip
        try simp only [Za, Zb, Zc, Zd, Ze, Zf, Zg, Zh] at h2
        refine o_on_ev rfl rfl rfl (ev_move rfl) ?_
        refine o_on_ev rfl rfl rfl (ev_gtr rfl rfl) ?_
        refine o_ev (ev_pick_t rfl rfl) rfl ?_
        refine o_nil (sq_n (?_))
        refine w_if rfl (fun h3 => ?_) (fun h3 => ?_)
        · skip
          try simp only [Za, Zb, Zc, Zd, Ze, Zf, Zg, Zh] at h3
          rw [if_pos (by omega)] at hI
          refine w_seq (?_)
          refine w_still Tryz_mixed ?_
          refine an_first 0 rfl rfl (by kernel_rfl) rfl (qv_at (ev_load rfl)) ?_
          refine an_first 1 rfl rfl (by kernel_rfl) rfl (qv_at (ev_assign rfl)) ?_
          refine an_first 2 rfl rfl (by kernel_rfl) rfl (qv_at (ev_assign rfl)) ?_
          refine an_nil (by kernel_rfl) (fun _ _ => rfl) (sq_n (w_ret (sq_r (bk_r (sq_r (lq_r (bk_r (?_))))))))
          refine res_intro (vs := [_, _]) Tryz.results81 (.inr rfl) (.cons (.tmp rfl) (.cons (.tmp rfl) (.nil))) ?_
          exact ⟨_, by (repeat (first | exact Ka | refine Kb ?_ | refine Kc ?_ | refine Kf ?_ | refine Kd ?_ | refine Ke ?_ | refine Kh ?_ | refine Kg rfl ?_ | refine Ki ?_ | refine Kj ?_ | refine Kk ?_ | refine Kl ?_ | refine Km ?_ | refine Kn ?_ | refine Ko ?_)), .inl ⟨3, hI, rfl, rfl⟩⟩
        · skip
          try simp only [Za, Zb, Zc, Zd, Ze, Zf, Zg, Zh] at h3
          refine w_skip (sq_n (w_seq (w_region (?_))))
          rw [if_neg (by omega)] at hI
          have hsh : (x &&& 127) * 2 ^ (7 * i) < 18446744073709551616 := sh_bound hi (by omega)
          have hand : x &&& 127 ≤ 127 := by rw [and127]; omega
          have hor := acc_or hv hsh
          have hp7 := p7 hi
          rw [and127] at hor
          refine o_ev (ev_move rfl) rfl ?_
          refine o_ev (ev_move rfl) rfl ?_
          refine o_ev (ev_andM 256 rfl rfl rfl rfl _ 127 rfl rfl (by first | decide | omega) (by first | decide | omega)) rfl ?_
          refine o_ev ((by first | exact ev_convL 18446744073709551616 rfl rfl rfl _ rfl (by omega) | exact ev_convM 18446744073709551616 rfl rfl rfl _ rfl)) rfl ?_
          refine o_ev (ev_move rfl) rfl ?_
          refine o_ev (ev_mul rfl rfl (by omega)) rfl ?_
          refine o_ev (ev_shlL (k := .u64) 18446744073709551616 rfl rfl rfl rfl (x &&& 127) (7 * i) rfl (by omega) hsh) rfl ?_
          refine o_ev (ev_orM 18446744073709551616 rfl rfl rfl rfl _ _ rfl rfl (by first | decide | omega) (by first | decide | omega)) rfl ?_
          refine o_ev (ev_assign rfl) rfl ?_
          refine o_nil (sq_n (w_seq (w_seq (w_region (?_)))))
          refine o_ev (ev_move rfl) rfl ?_
          refine o_ev (ev_geq rfl rfl) rfl ?_
          refine o_nil (sq_n (?_))
          refine w_if rfl (fun h4 => ?_) (fun h4 => ?_)
          · skip
            try simp only [Za, Zb, Zc, Zd, Ze, Zf, Zg, Zh] at h4
            rw [if_pos (by omega)] at hI
            refine w_exit (sq_e (bk_h (sq_n (w_region (?_)))))
            refine o_ev (ev_move rfl) rfl ?_
            refine o_ev (ev_add rfl rfl (by omega)) rfl ?_
            refine o_ev (ev_assign rfl) rfl ?_
            refine o_nil (?_)
            skip
            refine lq_n ((i + 1, v ||| (x &&& 127) * 2 ^ (7 * i))) ?_ ?_ ?_ ?_
            · (try dsimp only)
              have hP : 2 ^ (7 * (i + 1)) = 128 * 2 ^ (7 * i) := by rw [Nat.mul_add, Nat.pow_add]; omega
              have hm : x % 128 * 2 ^ (7 * i) ≤ 127 * 2 ^ (7 * i) := Nat.mul_le_mul_right _ (by omega)
              refine ⟨by omega, by omega, by rw [and127, hor]; omega, ?_⟩
              rw [hI, and127, hor]
              cases rdUv (i + 1) (xs.drop (k + (i + 1))) with
              | error e => rfl
              | ok p =>
                obtain ⟨w, n⟩ := p
                simp only [glue, Except.ok.injEq, Prod.mk.injEq]
                refine ⟨?_, by omega⟩
                rw [hP, Nat.add_mul, Nat.mul_comm 128 w, Nat.mul_assoc]; omega
            · (try dsimp only)
              omega
            · repeat (first | exact Sub.nil | refine Sub.cons rfl ?_)
            · (try dsimp only)
              (repeat (first | exact Ka | refine Kb ?_ | refine Kc ?_ | refine Kf ?_ | refine Kd ?_ | refine Ke ?_ | refine Kh ?_ | refine Kg rfl ?_ | refine Ki ?_ | refine Kj ?_ | refine Kk ?_ | refine Kl ?_ | refine Km ?_ | refine Kn ?_ | refine Ko ?_))
          · skip
            try simp only [Za, Zb, Zc, Zd, Ze, Zf, Zg, Zh] at h4
            rw [if_neg (by omega)] at hI
            refine w_skip (sq_n (w_seq (w_seq (w_region (?_)))))
            refine o_ev (ev_move rfl) rfl ?_
            refine o_ev (ev_eql rfl rfl) rfl ?_
            refine o_split (ev_move rfl) rfl (fun h5 => ?_) (fun h5 => ?_)
            · skip
              try simp only [Za, Zb, Zc, Zd, Ze, Zf, Zg, Zh] at h5
              refine o_on_ev rfl rfl rfl (ev_move rfl) ?_
              refine o_on_ev rfl rfl rfl (ev_gtr rfl rfl) ?_
              refine o_ev (ev_pick_t rfl rfl) rfl ?_
              refine o_nil (sq_n (?_))
              refine w_if rfl (fun h6 => ?_) (fun h6 => ?_)
              · skip
                try simp only [Za, Zb, Zc, Zd, Ze, Zf, Zg, Zh] at h6
                rw [if_pos (by omega)] at hI
                refine w_seq (?_)
                refine w_still Tryz_mixed ?_
                refine an_first 0 rfl rfl (by kernel_rfl) rfl (qv_at (ev_load rfl)) ?_
                refine an_first 1 rfl rfl (by kernel_rfl) rfl (qv_at (ev_assign rfl)) ?_
                refine an_first 2 rfl rfl (by kernel_rfl) rfl (qv_at (ev_assign rfl)) ?_
                refine an_nil (by kernel_rfl) (fun _ _ => rfl) (sq_n (w_ret (sq_r (bk_r (sq_r (lq_r (bk_r (?_))))))))
                refine res_intro (vs := [_, _]) Tryz.results81 (.inr rfl) (.cons (.tmp rfl) (.cons (.tmp rfl) (.nil))) ?_
                exact ⟨_, by (repeat (first | exact Ka | refine Kb ?_ | refine Kc ?_ | refine Kf ?_ | refine Kd ?_ | refine Ke ?_ | refine Kh ?_ | refine Kg rfl ?_ | refine Ki ?_ | refine Kj ?_ | refine Kk ?_ | refine Kl ?_ | refine Km ?_ | refine Kn ?_ | refine Ko ?_)), .inl ⟨3, hI, rfl, rfl⟩⟩
              · skip
                try simp only [Za, Zb, Zc, Zd, Ze, Zf, Zg, Zh] at h6
                refine w_skip (sq_n (w_seq (w_region (?_))))
                rw [if_neg (by omega)] at hI
                refine o_ev (ev_move rfl) rfl ?_
                refine o_ev (ev_nilCheck rfl) rfl ?_
                refine o_ev (ev_fieldAddr rfl) rfl ?_
                refine o_ev (ev_fieldAddr rfl) rfl ?_
                refine o_ev (ev_load rfl) rfl ?_
                refine o_ev (ev_move rfl) rfl ?_
                refine o_ev (ev_add rfl rfl (by omega)) rfl ?_
                refine o_ev (ev_add rfl rfl (by omega)) rfl ?_
                refine o_ev (ev_nilCheck rfl) rfl ?_
                refine o_ev (ev_fieldAddr rfl) rfl ?_
                refine o_ev (ev_fieldAddr rfl) rfl ?_
                refine o_st (st_store rfl rfl rfl) rfl ?_
                rintro _ _ ⟨rfl, rfl⟩
                refine o_nil (sq_n (w_seq (w_region (?_))))
                refine o_ev (ev_move rfl) rfl ?_
                refine o_ev (ev_assign rfl) rfl ?_
                refine o_ev (ev_assign rfl) rfl ?_
                refine o_nil (sq_n (w_ret (bk_r (sq_r (lq_r (bk_r (?_)))))))
                refine res_intro (vs := [_, _]) Tryz.results81 (.inr rfl) (.cons (.tmp rfl) (.cons (.tmp rfl) (.nil))) ?_
                have hI' : rdUv 0 (xs.drop k) = .ok (v ||| (x &&& 127) * 2 ^ (7 * i), i + 1) := by rw [hI, and127, hor, Nat.mod_eq_of_lt (by omega)]; rfl
                exact ⟨_, by (repeat (first | exact Ka | refine Kb ?_ | refine Kc ?_ | refine Kf ?_ | refine Kd ?_ | refine Ke ?_ | refine Kh ?_ | refine Kg rfl ?_ | refine Ki ?_ | refine Kj ?_ | refine Kk ?_ | refine Kl ?_ | refine Km ?_ | refine Kn ?_ | refine Ko ?_)), .inr ⟨_, _, hI', rfl, rfl⟩⟩
            · skip
              try simp only [Za, Zb, Zc, Zd, Ze, Zf, Zg, Zh] at h5
              refine o_off rfl rfl rfl ?_
              refine o_off rfl rfl rfl ?_
              refine o_ev (ev_pick_f rfl rfl) rfl ?_
              refine o_nil (sq_n (?_))
              refine w_if_false rfl (w_skip (sq_n (w_seq (w_region (?_)))))
              rw [if_neg (by omega)] at hI
              refine o_ev (ev_move rfl) rfl ?_
              refine o_ev (ev_nilCheck rfl) rfl ?_
              refine o_ev (ev_fieldAddr rfl) rfl ?_
              refine o_ev (ev_fieldAddr rfl) rfl ?_
              refine o_ev (ev_load rfl) rfl ?_
              refine o_ev (ev_move rfl) rfl ?_
              refine o_ev (ev_add rfl rfl (by omega)) rfl ?_
              refine o_ev (ev_add rfl rfl (by omega)) rfl ?_
              refine o_ev (ev_nilCheck rfl) rfl ?_
              refine o_ev (ev_fieldAddr rfl) rfl ?_
              refine o_ev (ev_fieldAddr rfl) rfl ?_
              refine o_st (st_store rfl rfl rfl) rfl ?_
              rintro _ _ ⟨rfl, rfl⟩
              refine o_nil (sq_n (w_seq (w_region (?_))))
              refine o_ev (ev_move rfl) rfl ?_
              refine o_ev (ev_assign rfl) rfl ?_
              refine o_ev (ev_assign rfl) rfl ?_
              refine o_nil (sq_n (w_ret (bk_r (sq_r (lq_r (bk_r (?_)))))))
              refine res_intro (vs := [_, _]) Tryz.results81 (.inr rfl) (.cons (.tmp rfl) (.cons (.tmp rfl) (.nil))) ?_
              have hI' : rdUv 0 (xs.drop k) = .ok (v ||| (x &&& 127) * 2 ^ (7 * i), i + 1) := by rw [hI, and127, hor, Nat.mod_eq_of_lt (by omega)]; rfl
              exact ⟨_, by (repeat (first | exact Ka | refine Kb ?_ | refine Kc ?_ | refine Kf ?_ | refine Kd ?_ | refine Ke ?_ | refine Kh ?_ | refine Kg rfl ?_ | refine Ki ?_ | refine Kj ?_ | refine Kk ?_ | refine Kl ?_ | refine Km ?_ | refine Kn ?_ | refine Ko ?_)), .inr ⟨_, _, hI', rfl, rfl⟩⟩
      · skip
        try simp only [Za, Zb, Zc, Zd, Ze, Zf, Zg, Zh] at h2
        refine o_off rfl rfl rfl ?_
        refine o_off rfl rfl rfl ?_
        refine o_ev (ev_pick_f rfl rfl) rfl ?_
        refine o_nil (sq_n (?_))
        refine w_if_false rfl (w_skip (sq_n (w_seq (w_region (?_)))))
        rw [if_neg (by omega)] at hI
        have hsh : (x &&& 127) * 2 ^ (7 * i) < 18446744073709551616 := sh_bound hi (by omega)
        have hand : x &&& 127 ≤ 127 := by rw [and127]; omega
        have hor := acc_or hv hsh
        have hp7 := p7 hi
        rw [and127] at hor
        refine o_ev (ev_move rfl) rfl ?_
        refine o_ev (ev_move rfl) rfl ?_
        refine o_ev (ev_andM 256 rfl rfl rfl rfl _ 127 rfl rfl (by first | decide | omega) (by first | decide | omega)) rfl ?_
        refine o_ev ((by first | exact ev_convL 18446744073709551616 rfl rfl rfl _ rfl (by omega) | exact ev_convM 18446744073709551616 rfl rfl rfl _ rfl)) rfl ?_
        refine o_ev (ev_move rfl) rfl ?_
        refine o_ev (ev_mul rfl rfl (by omega)) rfl ?_
        refine o_ev (ev_shlL (k := .u64) 18446744073709551616 rfl rfl rfl rfl (x &&& 127) (7 * i) rfl (by omega) hsh) rfl ?_
        refine o_ev (ev_orM 18446744073709551616 rfl rfl rfl rfl _ _ rfl rfl (by first | decide | omega) (by first | decide | omega)) rfl ?_
        refine o_ev (ev_assign rfl) rfl ?_
        refine o_nil (sq_n (w_seq (w_seq (w_region (?_)))))
        refine o_ev (ev_move rfl) rfl ?_
        refine o_ev (ev_geq rfl rfl) rfl ?_
        refine o_nil (sq_n (?_))
        refine w_if rfl (fun h7 => ?_) (fun h7 => ?_)
        · skip
          try simp only [Za, Zb, Zc, Zd, Ze, Zf, Zg, Zh] at h7
          rw [if_pos (by omega)] at hI
          refine w_exit (sq_e (bk_h (sq_n (w_region (?_)))))
          refine o_ev (ev_move rfl) rfl ?_
          refine o_ev (ev_add rfl rfl (by omega)) rfl ?_
          refine o_ev (ev_assign rfl) rfl ?_
          refine o_nil (?_)
          skip
          refine lq_n ((i + 1, v ||| (x &&& 127) * 2 ^ (7 * i))) ?_ ?_ ?_ ?_
          · (try dsimp only)
            have hP : 2 ^ (7 * (i + 1)) = 128 * 2 ^ (7 * i) := by rw [Nat.mul_add, Nat.pow_add]; omega
            have hm : x % 128 * 2 ^ (7 * i) ≤ 127 * 2 ^ (7 * i) := Nat.mul_le_mul_right _ (by omega)
            refine ⟨by omega, by omega, by rw [and127, hor]; omega, ?_⟩
            rw [hI, and127, hor]
            cases rdUv (i + 1) (xs.drop (k + (i + 1))) with
            | error e => rfl
            | ok p =>
              obtain ⟨w, n⟩ := p
              simp only [glue, Except.ok.injEq, Prod.mk.injEq]
              refine ⟨?_, by omega⟩
              rw [hP, Nat.add_mul, Nat.mul_comm 128 w, Nat.mul_assoc]; omega
          · (try dsimp only)
            omega
          · repeat (first | exact Sub.nil | refine Sub.cons rfl ?_)
          · (try dsimp only)
            (repeat (first | exact Ka | refine Kb ?_ | refine Kc ?_ | refine Kf ?_ | refine Kd ?_ | refine Ke ?_ | refine Kh ?_ | refine Kg rfl ?_ | refine Ki ?_ | refine Kj ?_ | refine Kk ?_ | refine Kl ?_ | refine Km ?_ | refine Kn ?_ | refine Ko ?_))
        · skip
          try simp only [Za, Zb, Zc, Zd, Ze, Zf, Zg, Zh] at h7
          rw [if_neg (by omega)] at hI
          refine w_skip (sq_n (w_seq (w_seq (w_region (?_)))))
          refine o_ev (ev_move rfl) rfl ?_
          refine o_ev (ev_eql rfl rfl) rfl ?_
          refine o_split (ev_move rfl) rfl (fun h8 => ?_) (fun h8 => ?_)
          · skip
            try simp only [Za, Zb, Zc, Zd, Ze, Zf, Zg, Zh] at h8
            refine o_on_ev rfl rfl rfl (ev_move rfl) ?_
            refine o_on_ev rfl rfl rfl (ev_gtr rfl rfl) ?_
            refine o_ev (ev_pick_t rfl rfl) rfl ?_
            refine o_nil (sq_n (?_))
            refine w_if rfl (fun h9 => ?_) (fun h9 => ?_)
            · skip
              try simp only [Za, Zb, Zc, Zd, Ze, Zf, Zg, Zh] at h9
              rw [if_pos (by omega)] at hI
              refine w_seq (?_)
              refine w_still Tryz_mixed ?_
              refine an_first 0 rfl rfl (by kernel_rfl) rfl (qv_at (ev_load rfl)) ?_
              refine an_first 1 rfl rfl (by kernel_rfl) rfl (qv_at (ev_assign rfl)) ?_
              refine an_first 2 rfl rfl (by kernel_rfl) rfl (qv_at (ev_assign rfl)) ?_
              refine an_nil (by kernel_rfl) (fun _ _ => rfl) (sq_n (w_ret (sq_r (bk_r (sq_r (lq_r (bk_r (?_))))))))
              refine res_intro (vs := [_, _]) Tryz.results81 (.inr rfl) (.cons (.tmp rfl) (.cons (.tmp rfl) (.nil))) ?_
              exact ⟨_, by (repeat (first | exact Ka | refine Kb ?_ | refine Kc ?_ | refine Kf ?_ | refine Kd ?_ | refine Ke ?_ | refine Kh ?_ | refine Kg rfl ?_ | refine Ki ?_ | refine Kj ?_ | refine Kk ?_ | refine Kl ?_ | refine Km ?_ | refine Kn ?_ | refine Ko ?_)), .inl ⟨3, hI, rfl, rfl⟩⟩
            · skip
              try simp only [Za, Zb, Zc, Zd, Ze, Zf, Zg, Zh] at h9
              refine w_skip (sq_n (w_seq (w_region (?_))))
              rw [if_neg (by omega)] at hI
              refine o_ev (ev_move rfl) rfl ?_
              refine o_ev (ev_nilCheck rfl) rfl ?_
              refine o_ev (ev_fieldAddr rfl) rfl ?_
              refine o_ev (ev_fieldAddr rfl) rfl ?_
              refine o_ev (ev_load rfl) rfl ?_
              refine o_ev (ev_move rfl) rfl ?_
              refine o_ev (ev_add rfl rfl (by omega)) rfl ?_
              refine o_ev (ev_add rfl rfl (by omega)) rfl ?_
              refine o_ev (ev_nilCheck rfl) rfl ?_
              refine o_ev (ev_fieldAddr rfl) rfl ?_
              refine o_ev (ev_fieldAddr rfl) rfl ?_
              refine o_st (st_store rfl rfl rfl) rfl ?_
              rintro _ _ ⟨rfl, rfl⟩
              refine o_nil (sq_n (w_seq (w_region (?_))))
              refine o_ev (ev_move rfl) rfl ?_
              refine o_ev (ev_assign rfl) rfl ?_
              refine o_ev (ev_assign rfl) rfl ?_
              refine o_nil (sq_n (w_ret (bk_r (sq_r (lq_r (bk_r (?_)))))))
              refine res_intro (vs := [_, _]) Tryz.results81 (.inr rfl) (.cons (.tmp rfl) (.cons (.tmp rfl) (.nil))) ?_
              have hI' : rdUv 0 (xs.drop k) = .ok (v ||| (x &&& 127) * 2 ^ (7 * i), i + 1) := by rw [hI, and127, hor, Nat.mod_eq_of_lt (by omega)]; rfl
              exact ⟨_, by (repeat (first | exact Ka | refine Kb ?_ | refine Kc ?_ | refine Kf ?_ | refine Kd ?_ | refine Ke ?_ | refine Kh ?_ | refine Kg rfl ?_ | refine Ki ?_ | refine Kj ?_ | refine Kk ?_ | refine Kl ?_ | refine Km ?_ | refine Kn ?_ | refine Ko ?_)), .inr ⟨_, _, hI', rfl, rfl⟩⟩
          · skip
            try simp only [Za, Zb, Zc, Zd, Ze, Zf, Zg, Zh] at h8
            refine o_off rfl rfl rfl ?_
            refine o_off rfl rfl rfl ?_
            refine o_ev (ev_pick_f rfl rfl) rfl ?_
            refine o_nil (sq_n (?_))
            refine w_if_false rfl (w_skip (sq_n (w_seq (w_region (?_)))))
            rw [if_neg (by omega)] at hI
            refine o_ev (ev_move rfl) rfl ?_
            refine o_ev (ev_nilCheck rfl) rfl ?_
            refine o_ev (ev_fieldAddr rfl) rfl ?_
            refine o_ev (ev_fieldAddr rfl) rfl ?_
            refine o_ev (ev_load rfl) rfl ?_
            refine o_ev (ev_move rfl) rfl ?_
            refine o_ev (ev_add rfl rfl (by omega)) rfl ?_
            refine o_ev (ev_add rfl rfl (by omega)) rfl ?_
            refine o_ev (ev_nilCheck rfl) rfl ?_
            refine o_ev (ev_fieldAddr rfl) rfl ?_
            refine o_ev (ev_fieldAddr rfl) rfl ?_
            refine o_st (st_store rfl rfl rfl) rfl ?_
            rintro _ _ ⟨rfl, rfl⟩
            refine o_nil (sq_n (w_seq (w_region (?_))))
            refine o_ev (ev_move rfl) rfl ?_
            refine o_ev (ev_assign rfl) rfl ?_
            refine o_ev (ev_assign rfl) rfl ?_
            refine o_nil (sq_n (w_ret (bk_r (sq_r (lq_r (bk_r (?_)))))))
            refine res_intro (vs := [_, _]) Tryz.results81 (.inr rfl) (.cons (.tmp rfl) (.cons (.tmp rfl) (.nil))) ?_
            have hI' : rdUv 0 (xs.drop k) = .ok (v ||| (x &&& 127) * 2 ^ (7 * i), i + 1) := by rw [hI, and127, hor, Nat.mod_eq_of_lt (by omega)]; rfl
            exact ⟨_, by (repeat (first | exact Ka | refine Kb ?_ | refine Kc ?_ | refine Kf ?_ | refine Kd ?_ | refine Ke ?_ | refine Kh ?_ | refine Kg rfl ?_ | refine Ki ?_ | refine Kj ?_ | refine Kk ?_ | refine Kl ?_ | refine Km ?_ | refine Kn ?_ | refine Ko ?_)), .inr ⟨_, _, hI', rfl, rfl⟩⟩
end Go.Sx
