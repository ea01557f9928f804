import Derived.Test.YtcbidldebfibkaaGreatDoorW7
set_option linter.unusedVariables false
set_option linter.unusedSimpArgs false
set_option linter.unusedSectionVars false
set_option linter.unnecessarySimpa false
namespace Go.Sx
open Go Go.Proofs
set_option maxRecDepth 100000
set_option linter.unusedSimpArgs false
set_option linter.unusedVariables false

def rdUpto (most : Nat) (l : List Nat) : Except Nat (Nat × Nat) :=
  match rdUv 0 l with
  | .error e => .error e
  | .ok (v, n) => if most < v then .error 4 else .ok (v, n)
theorem rdUpto_ok {most : Nat} {l : List Nat} {v n : Nat} (hb : ∀ x ∈ l, x < 256) (h : rdUpto most l = .ok (v, n)) : v ≤ most ∧ n ≤ l.length ∧ l.take n = uv v ∧ 1 ≤ n := by
  unfold rdUpto at h
  split at h
  · cases h
  · rename_i v' n' hr
    split at h
    · cases h
    · simp only [Except.ok.injEq, Prod.mk.injEq] at h
      obtain ⟨rfl, rfl⟩ := h
      obtain ⟨h1, h2, h3, h4, h5, h6⟩ := rdUv_ok l 0 v' n' hb (by omega) hr
      exact ⟨by omega, h4, h5, h2⟩

theorem rUpto {G : Base} {H R : Heap} {b k most : Nat} {xs : List Nat} [hg : Glb G R] [hr : Rem H Rd b (xs, k) R] (hk : k ≤ xs.length) (hn : xs.length ≤ 1000000000000) (hb : ∀ x ∈ xs, x < 256) (hm : most ≤ 4611686018427387904) : SC G Tryz.prog 46 [.pointer (some ⟨b, 0, none⟩), .int .i64 ((most : Nat) : Int)] H (fun v H' =>
    (∃ e, rdUpto most (xs.drop k) = .error e ∧ v = .tuple #[.int .i64 0, G.err e] ∧ H' = Rd b (xs, k) :: R) ∨ (∃ n m, rdUpto most (xs.drop k) = .ok (n, m) ∧ v = .tuple #[.int .i64 ((n : Nat) : Int), .nilIface] ∧ H' = Rd b (xs, k + m) :: R)) := by
  refine SC.rem (h := hr) ?_
  refine SC.out (sc_walk Tryz.func46 rfl Tryz.ntmps46 (by kernel_rfl) (Nat.le_of_ble_eq_true rfl) ?_)
  refine w_seq (w_region (?_))
  refine o_ev (ev_assign rfl) rfl ?_
  refine o_ev (ev_assign rfl) rfl ?_
  refine o_nil (sq_n (w_seq (w_region (?_))))
  refine o_unrd b fun s => ?_
  refine o_ev (ev_move rfl) rfl ?_
  refine o_ev (ev_nilCheck rfl) rfl ?_
  refine o_ev (ev_fieldAddr rfl) rfl ?_
  refine o_ev (ev_fieldAddr rfl) rfl ?_
  refine o_ev (ev_load rfl) rfl ?_
  refine o_ev (ev_assign rfl) rfl ?_
  refine o_nil (sq_n (w_seq (w_region (?_))))
  refine o_hsub (H' := Rd b (xs, k) :: R) (by (repeat (first | exact Ka | refine Kb ?_ | refine Kc ?_ | refine Kf ?_ | refine Kd ?_ | refine Ke ?_ | refine Kh ?_ | refine Kg rfl ?_ | refine Ki ?_ | refine Kj ?_ | refine Kk ?_ | refine Kl ?_ | refine Km ?_ | refine Kn ?_ | refine Ko ?_))) ?_
  refine o_ev (ev_move rfl) rfl ?_
  refine o_st (st_call (vs := [_]) rfl (rUvarint hk hn hb)) rfl ?_
  rintro v1 H1 hK
  rcases hK with ⟨e, he, rfl, rfl⟩ | ⟨n, m, he, rfl, rfl⟩
  · skip
    refine o_ev (ev_move rfl) rfl ?_
    refine o_ev (ev_extract1 rfl rfl) rfl ?_
    refine o_ev (ev_extract1 rfl rfl) rfl ?_
    refine o_ev (ev_assign rfl) rfl ?_
    refine o_ev (ev_assign rfl) rfl ?_
    refine o_nil (sq_n (w_seq (w_seq (w_region (?_)))))
    refine o_ev (ev_move rfl) rfl ?_
    refine o_ev (ev_neq_nil_val rfl) rfl ?_
    refine o_nil (sq_n (?_))
    refine w_if_true rfl (w_seq (w_region (?_)))
    refine o_ev (ev_move rfl) rfl ?_
    refine o_ev (ev_assign rfl) rfl ?_
    refine o_ev (ev_assign rfl) rfl ?_
    refine o_nil (sq_n (w_ret (sq_r (?_))))
    refine res_intro (vs := [_, _]) Tryz.results46 (.inr rfl) (.cons (.tmp rfl) (.cons (.tmp rfl) (.nil))) ?_
    exact ⟨_, by (repeat (first | exact Ka | refine Kb ?_ | refine Kc ?_ | refine Kf ?_ | refine Kd ?_ | refine Ke ?_ | refine Kh ?_ | refine Kg rfl ?_ | refine Ki ?_ | refine Kj ?_ | refine Kk ?_ | refine Kl ?_ | refine Km ?_ | refine Kn ?_ | refine Ko ?_)), .inl ⟨e, by rw [rdUpto, he], rfl, rfl⟩⟩
  · skip
    obtain ⟨q1, q2, q3, q4, q5, q6⟩ := rdUv_ok _ 0 n m (fun x hx => hb x (List.mem_of_mem_drop hx)) (by omega) he
    rw [List.length_drop] at q4
    refine o_ev (ev_move rfl) rfl ?_
    refine o_ev (ev_extract1 rfl rfl) rfl ?_
    refine o_ev (ev_extract1 rfl rfl) rfl ?_
    refine o_ev (ev_assign rfl) rfl ?_
    refine o_ev (ev_assign rfl) rfl ?_
    refine o_nil (sq_n (w_seq (w_seq (w_region (?_)))))
    refine o_ev (ev_move rfl) rfl ?_
    refine o_ev (ev_neq_nil_nil rfl) rfl ?_
    refine o_nil (sq_n (?_))
    refine w_if_false rfl (w_skip (sq_n (w_seq (w_seq (w_region (?_))))))
    refine o_ev (ev_move rfl) rfl ?_
    refine o_ev (ev_lss rfl rfl) rfl ?_
    refine o_split (ev_move rfl) rfl (fun h1 => ?_) (fun h1 => ?_)
    · skip
      try simp only [Za, Zb, Zc, Zd, Ze, Zf, Zg, Zh] at h1
      exfalso; omega -- DONE
    · skip
      try simp only [Za, Zb, Zc, Zd, Ze, Zf, Zg, Zh] at h1
      refine o_on_ev rfl rfl rfl (ev_move rfl) ?_
      refine o_on_ev rfl rfl rfl (ev_move rfl) ?_
      refine o_on_ev rfl rfl rfl ((by first | exact ev_convL 18446744073709551616 rfl rfl rfl _ rfl (by omega) | exact ev_convM 18446744073709551616 rfl rfl rfl _ rfl)) ?_
      refine o_on_ev rfl rfl rfl (ev_gtr rfl rfl) ?_
      refine o_ev (ev_pick_f rfl rfl) rfl ?_
      refine o_nil (sq_n (?_))
      refine w_if rfl (fun h2 => ?_) (fun h2 => ?_)
      · skip
        try simp only [Za, Zb, Zc, Zd, Ze, Zf, Zg, Zh] at h2
        refine w_seq (w_region (?_))
        refine o_unrd b fun s => ?_
        refine o_ev (ev_move rfl) rfl ?_
        refine o_ev (ev_move rfl) rfl ?_
        refine o_ev (ev_nilCheck rfl) rfl ?_
        refine o_ev (ev_fieldAddr rfl) rfl ?_
        refine o_ev (ev_fieldAddr rfl) rfl ?_
        refine o_st (st_store rfl rfl rfl) rfl ?_
        rintro _ _ ⟨rfl, rfl⟩
        refine o_nil (sq_n (w_seq (?_)))
        refine w_still Tryz_mixed ?_
        refine an_first 0 rfl rfl (by kernel_rfl) rfl (qv_at (ev_load rfl)) ?_
        refine an_first 1 rfl rfl (by kernel_rfl) rfl (qv_at (ev_assign rfl)) ?_
        refine an_first 2 rfl rfl (by kernel_rfl) rfl (qv_at (ev_assign rfl)) ?_
        refine an_nil (by kernel_rfl) (fun _ _ => rfl) (sq_n (w_ret (sq_r (?_))))
        refine res_intro (vs := [_, _]) Tryz.results46 (.inr rfl) (.cons (.tmp rfl) (.cons (.tmp rfl) (.nil))) ?_
        exact ⟨_, by (repeat (first | exact Ka | refine Kb ?_ | refine Kc ?_ | refine Kf ?_ | refine Kd ?_ | refine Ke ?_ | refine Kh ?_ | refine Kg rfl ?_ | refine Ki ?_ | refine Kj ?_ | refine Kk ?_ | refine Kl ?_ | refine Km ?_ | refine Kn ?_ | refine Ko ?_)), .inl ⟨4, by rw [rdUpto, he]; simp only []; rw [if_pos (by omega)], rfl, rfl⟩⟩
      · skip
        try simp only [Za, Zb, Zc, Zd, Ze, Zf, Zg, Zh] at h2
        refine w_skip (sq_n (w_seq (w_region (?_))))
        refine o_ev (ev_move rfl) rfl ?_
        refine o_ev (ev_conv64 rfl (by omega)) rfl ?_
        refine o_ev (ev_assign rfl) rfl ?_
        refine o_ev (ev_assign rfl) rfl ?_
        refine o_nil (sq_n (w_ret (?_)))
        refine res_intro (vs := [_, _]) Tryz.results46 (.inr rfl) (.cons (.tmp rfl) (.cons (.tmp rfl) (.nil))) ?_
        exact ⟨_, by (repeat (first | exact Ka | refine Kb ?_ | refine Kc ?_ | refine Kf ?_ | refine Kd ?_ | refine Ke ?_ | refine Kh ?_ | refine Kg rfl ?_ | refine Ki ?_ | refine Kj ?_ | refine Kk ?_ | refine Kl ?_ | refine Km ?_ | refine Kn ?_ | refine Ko ?_)), .inr ⟨n, m, by rw [rdUpto, he]; simp only []; rw [if_neg (by omega)], rfl, rfl⟩⟩

def rdText (most : Nat) (l : List Nat) : Except Nat (List Nat × Nat) :=
  match rdUpto most l with
  | .error e => .error e
  | .ok (n, m) => if l.length - m < n then .error 2 else .ok ((l.drop m).take n, m + n)

theorem rText {G : Base} {H R : Heap} {b k most : Nat} {xs : List Nat} [hg : Glb G R] [hr : Rem H Rd b (xs, k) R] (hk : k ≤ xs.length) (hn : xs.length ≤ 1000000000000) (hb : ∀ x ∈ xs, x < 256) (hm : most ≤ 4611686018427387904) : SC G Tryz.prog 120 [.pointer (some ⟨b, 0, none⟩), .int .i64 ((most : Nat) : Int)] H (fun v H' =>
    (∃ e, rdText most (xs.drop k) = .error e ∧ v = .tuple #[.string ByteArray.empty, G.err e] ∧ H' = Rd b (xs, k) :: R) ∨ (∃ q m, rdText most (xs.drop k) = .ok (q, m) ∧ v = .tuple #[.string (strB q), .nilIface] ∧ H' = Rd b (xs, k + m) :: R)) := by
  refine SC.rem (h := hr) ?_
  refine SC.out (sc_walk Tryz.func120 rfl Tryz.ntmps120 (by kernel_rfl) (Nat.le_of_ble_eq_true rfl) ?_)
  refine w_seq (w_region (?_))
  refine o_ev (ev_assign rfl) rfl ?_
  refine o_ev (ev_assign rfl) rfl ?_
  refine o_nil (sq_n (w_seq (w_region (?_))))
  refine o_unrd b fun s => ?_
  refine o_ev (ev_move rfl) rfl ?_
  refine o_ev (ev_nilCheck rfl) rfl ?_
  refine o_ev (ev_fieldAddr rfl) rfl ?_
  refine o_ev (ev_fieldAddr rfl) rfl ?_
  refine o_ev (ev_load rfl) rfl ?_
  refine o_ev (ev_assign rfl) rfl ?_
  refine o_nil (sq_n (w_seq (w_region (?_))))
  refine o_hsub (H' := Rd b (xs, k) :: R) (by (repeat (first | exact Ka | refine Kb ?_ | refine Kc ?_ | refine Kf ?_ | refine Kd ?_ | refine Ke ?_ | refine Kh ?_ | refine Kg rfl ?_ | refine Ki ?_ | refine Kj ?_ | refine Kk ?_ | refine Kl ?_ | refine Km ?_ | refine Kn ?_ | refine Ko ?_))) ?_
  refine o_ev (ev_move rfl) rfl ?_
  refine o_ev (ev_move rfl) rfl ?_
  refine o_st (st_call (vs := [_, _]) rfl (rUpto hk hn hb hm)) rfl ?_
  rintro v1 H1 hK
  rcases hK with ⟨e, he, rfl, rfl⟩ | ⟨n, m, he, rfl, rfl⟩
  · skip
    refine o_ev (ev_move rfl) rfl ?_
    refine o_ev (ev_extract1 rfl rfl) rfl ?_
    refine o_ev (ev_extract1 rfl rfl) rfl ?_
    refine o_ev (ev_assign rfl) rfl ?_
    refine o_ev (ev_assign rfl) rfl ?_
    refine o_nil (sq_n (w_seq (w_seq (w_region (?_)))))
    refine o_ev (ev_move rfl) rfl ?_
    refine o_ev (ev_neq_nil_val rfl) rfl ?_
    refine o_nil (sq_n (?_))
    refine w_if_true rfl (w_seq (w_region (?_)))
    refine o_ev (ev_move rfl) rfl ?_
    refine o_ev (ev_assign rfl) rfl ?_
    refine o_ev (ev_assign rfl) rfl ?_
    refine o_nil (sq_n (w_ret (sq_r (?_))))
    refine res_intro (vs := [_, _]) Tryz.results120 (.inr rfl) (.cons (.tmp rfl) (.cons (.tmp rfl) (.nil))) ?_
    exact ⟨_, by (repeat (first | exact Ka | refine Kb ?_ | refine Kc ?_ | refine Kf ?_ | refine Kd ?_ | refine Ke ?_ | refine Kh ?_ | refine Kg rfl ?_ | refine Ki ?_ | refine Kj ?_ | refine Kk ?_ | refine Kl ?_ | refine Km ?_ | refine Kn ?_ | refine Ko ?_)), .inl ⟨e, by rw [rdText, he], rfl, rfl⟩⟩
  · skip
    obtain ⟨q1, q2, q3, q4⟩ := rdUpto_ok (fun x hx => hb x (List.mem_of_mem_drop hx)) he
    rw [List.length_drop] at q2
    refine o_ev (ev_move rfl) rfl ?_
    refine o_ev (ev_extract1 rfl rfl) rfl ?_
    refine o_ev (ev_extract1 rfl rfl) rfl ?_
    refine o_ev (ev_assign rfl) rfl ?_
    refine o_ev (ev_assign rfl) rfl ?_
    refine o_nil (sq_n (w_seq (w_seq (w_region (?_)))))
    refine o_ev (ev_move rfl) rfl ?_
    refine o_ev (ev_neq_nil_nil rfl) rfl ?_
    refine o_nil (sq_n (?_))
    refine w_if_false rfl (w_skip (sq_n (w_seq (w_seq (w_region (?_))))))
    refine o_unrd b fun s => ?_
    refine o_ev (ev_move rfl) rfl ?_
    refine o_ev (ev_nilCheck rfl) rfl ?_
    refine o_ev (ev_fieldAddr rfl) rfl ?_
    refine o_st (st_call (vs := [_]) rfl (left (by omega))) rfl ?_
    rintro _ _ ⟨rfl, rfl⟩
    refine o_ev (ev_move rfl) rfl ?_
    refine o_ev (ev_lss rfl rfl) rfl ?_
    refine o_nil (sq_n (?_))
    refine w_if rfl (fun h1 => ?_) (fun h1 => ?_)
    · skip
      try simp only [Za, Zb, Zc, Zd, Ze, Zf, Zg, Zh] at h1
      refine w_seq (w_region (?_))
      refine o_ev (ev_move rfl) rfl ?_
      refine o_ev (ev_move rfl) rfl ?_
      refine o_ev (ev_nilCheck rfl) rfl ?_
      refine o_ev (ev_fieldAddr rfl) rfl ?_
      refine o_ev (ev_fieldAddr rfl) rfl ?_
      refine o_st (st_store rfl rfl rfl) rfl ?_
      rintro _ _ ⟨rfl, rfl⟩
      refine o_nil (sq_n (w_seq (?_)))
      refine w_still Tryz_mixed ?_
      refine an_first 0 rfl rfl (by kernel_rfl) rfl (qv_at (ev_load rfl)) ?_
      refine an_first 1 rfl rfl (by kernel_rfl) rfl (qv_at (ev_assign rfl)) ?_
      refine an_first 2 rfl rfl (by kernel_rfl) rfl (qv_at (ev_assign rfl)) ?_
      refine an_nil (by kernel_rfl) (fun _ _ => rfl) (sq_n (w_ret (sq_r (?_))))
      refine res_intro (vs := [_, _]) Tryz.results120 (.inr rfl) (.cons (.tmp rfl) (.cons (.tmp rfl) (.nil))) ?_
      exact ⟨_, by (repeat (first | exact Ka | refine Kb ?_ | refine Kc ?_ | refine Kf ?_ | refine Kd ?_ | refine Ke ?_ | refine Kh ?_ | refine Kg rfl ?_ | refine Ki ?_ | refine Kj ?_ | refine Kk ?_ | refine Kl ?_ | refine Km ?_ | refine Kn ?_ | refine Ko ?_)), .inl ⟨2, by rw [rdText, he]; simp only []; rw [if_pos (by rw [List.length_drop]; omega)], rfl, rfl⟩⟩
    · skip
      try simp only [Za, Zb, Zc, Zd, Ze, Zf, Zg, Zh] at h1
      refine w_skip (sq_n (w_seq (w_region (?_))))
      refine o_ev (ev_move rfl) rfl ?_
      refine o_ev (ev_nilCheck rfl) rfl ?_
      refine o_ev (ev_fieldAddr rfl) rfl ?_
      refine o_ev (ev_fieldAddr rfl) rfl ?_
      refine o_ev (ev_load rfl) rfl ?_
      refine o_ev (ev_move rfl) rfl ?_
      refine o_ev (ev_add rfl rfl (by omega)) rfl ?_
      refine o_ev (ev_nilCheck rfl) rfl ?_
      refine o_ev (ev_fieldAddr rfl) rfl ?_
      refine o_ev (ev_fieldAddr rfl) rfl ?_
      refine o_st (st_store rfl rfl rfl) rfl ?_
      rintro _ _ ⟨rfl, rfl⟩
      refine o_nil (sq_n (w_seq (?_)))
      refine w_still Tryz_mixed ?_
      have hcut : Sl (Vr b [.int .i64 (((k + m : Nat) : Int) + ((n : Nat) : Int)), .int .i64 ((xs.length : Nat) : Int), s.val] :: Row s eB xs :: R) (s.cut 1 (k + m) (k + m + n)) eB ((xs.take (k + m + n)).drop (k + m)) := Sl.cut (e := eB) inferInstance (by omega) (by omega)
      have hq : (xs.take (k + m + n)).drop (k + m) = ((xs.drop k).drop m).take n := by rw [List.drop_drop, List.drop_take, show k + m + n - (k + m) = n by omega]
      refine an_first 0 rfl rfl (by kernel_rfl) rfl (qv_at (ev_move rfl)) ?_
      refine an_first 1 rfl rfl (by kernel_rfl) rfl (qv_at (ev_nilCheck rfl)) ?_
      refine an_first 2 rfl rfl (by kernel_rfl) rfl (qv_at (ev_fieldAddr rfl)) ?_
      refine an_first 3 rfl rfl (by kernel_rfl) rfl (qv_at (ev_load rfl)) ?_
      refine an_first 4 rfl rfl (by kernel_rfl) rfl (qv_at (ev_move rfl)) ?_
      refine an_first 5 rfl rfl (by kernel_rfl) rfl (qv_at (ev_nilCheck rfl)) ?_
      refine an_first 6 rfl rfl (by kernel_rfl) rfl (qv_at (ev_fieldAddr rfl)) ?_
      refine an_first 7 rfl rfl (by kernel_rfl) rfl (qv_at (ev_fieldAddr rfl)) ?_
      refine an_first 8 rfl rfl (by kernel_rfl) rfl (qv_at (ev_load rfl)) ?_
      refine an_first 9 rfl rfl (by kernel_rfl) rfl (qv_at (ev_move rfl)) ?_
      refine an_first 10 rfl rfl (by kernel_rfl) rfl (qv_at (ev_sub rfl rfl (by omega))) ?_
      refine an_first 11 rfl rfl (by kernel_rfl) rfl (qv_at (ev_move rfl)) ?_
      refine an_first 12 rfl rfl (by kernel_rfl) rfl (qv_at (ev_nilCheck rfl)) ?_
      refine an_first 13 rfl rfl (by kernel_rfl) rfl (qv_at (ev_fieldAddr rfl)) ?_
      refine an_first 14 rfl rfl (by kernel_rfl) rfl (qv_at (ev_fieldAddr rfl)) ?_
      refine an_first 15 rfl rfl (by kernel_rfl) rfl (qv_at (ev_load rfl)) ?_
      refine an_first 16 rfl rfl (by kernel_rfl) rfl (qv_at (ev_slice1 rfl (by rfl) (k + m) (k + m + n) ⟨_, _, rfl, by omega⟩ ⟨_, _, rfl, by omega⟩ (by omega) (by omega))) ?_
      refine an_first 17 rfl rfl (by kernel_rfl) rfl (qv_at (ev_bytesToString rfl)) ?_
      refine an_first 18 rfl rfl (by kernel_rfl) rfl (qv_at (ev_assign rfl)) ?_
      refine an_first 19 rfl rfl (by kernel_rfl) rfl (qv_at (ev_assign rfl)) ?_
      refine an_nil (by kernel_rfl) (fun _ _ => rfl) (sq_n (w_ret (?_)))
      refine res_intro (vs := [_, _]) Tryz.results120 (.inr rfl) (.cons (.tmp rfl) (.cons (.tmp rfl) (.nil))) ?_
      exact ⟨Rd b (xs, k + (m + n)) :: R, by rw [← Nat.add_assoc]; (repeat (first | exact Ka | refine Kb ?_ | refine Kc ?_ | refine Kf ?_ | refine Kd ?_ | refine Ke ?_ | refine Kh ?_ | refine Kg rfl ?_ | refine Ki ?_ | refine Kj ?_ | refine Kk ?_ | refine Kl ?_ | refine Km ?_ | refine Kn ?_ | refine Ko ?_)), .inr ⟨((xs.drop k).drop m).take n, m + n, by rw [rdText, he]; simp only []; rw [if_neg (by rw [List.length_drop]; omega)], by rw [hq]; rfl, rfl⟩⟩
end Go.Sx
namespace Go.Sx
open Go Go.Proofs
set_option maxRecDepth 100000
set_option linter.unusedSimpArgs false
set_option linter.unusedVariables false

/-- n numbers of a rising list behind last. -/
def rdRis : Nat → Int → List Nat → Except Nat (List Int × Nat)
  | 0, _, _ => .ok ([], 0)
  | n + 1, last, l =>
    match rdUv 0 l with
    | .error e => .error e
    | .ok (v, m) => if 9223372036854775806 - last < (v : Int) then .error 4 else
      match rdRis n (last + v + 1) (l.drop m) with
      | .error e => .error e
      | .ok (r, m') => .ok ((last + v + 1) :: r, m + m')
def rdRising (most : Nat) (l : List Nat) : Except Nat (List Int × Nat) :=
  match rdUpto most l with
  | .error e => .error e
  | .ok (n, m) =>
    match rdRis n (-1) (l.drop m) with
    | .error e => .error e
    | .ok (r, m') => .ok (r, m + m')
def glueR (zs : List Int) (a : Nat) : Except Nat (List Int × Nat) → Except Nat (List Int × Nat)
  | .ok (r, m) => .ok (zs ++ r, a + m)
  | .error e => .error e

theorem rRis {G : Base} {H R : Heap} {b k most : Nat} {xs : List Nat} [hg : Glb G R] [hr : Rem H Rd b (xs, k) R] (hk : k ≤ xs.length) (hn : xs.length ≤ 1000000000000) (hb : ∀ x ∈ xs, x < 256) (hm : most ≤ 1000000000000) : SC G Tryz.prog 85 [.pointer (some ⟨b, 0, none⟩), .int .i64 ((most : Nat) : Int)] H (fun v H' =>
    (∃ e k', rdRising most (xs.drop k) = .error e ∧ v = .tuple #[.slice none 0 0, G.err e] ∧ H' = Rd b (xs, k') :: R) ∨ (∃ l m, ∃ s' : SV, rdRising most (xs.drop k) = .ok (l, m) ∧ v = .tuple #[s'.val, .nilIface] ∧ H' = Row s' eI l :: Rd b (xs, k + m) :: R)) := by
  refine SC.rem (h := hr) ?_
  refine SC.out (sc_walk Tryz.func85 rfl Tryz.ntmps85 (by kernel_rfl) (Nat.le_of_ble_eq_true rfl) ?_)
  refine w_seq (w_region (?_))
  refine o_ev (ev_assign rfl) rfl ?_
  refine o_ev (ev_assign rfl) rfl ?_
  refine o_nil (sq_n (w_seq (w_region (?_))))
  refine o_ev (ev_move rfl) rfl ?_
  refine o_ev (ev_move rfl) rfl ?_
  refine o_st (st_call (vs := [_, _]) rfl (rUpto hk hn hb (by omega))) rfl ?_
  rintro v1 H1 hK
  rcases hK with ⟨e, he, rfl, rfl⟩ | ⟨n, m, he, rfl, rfl⟩
  · skip
    refine o_ev (ev_move rfl) rfl ?_
    refine o_ev (ev_extract1 rfl rfl) rfl ?_
    refine o_ev (ev_extract1 rfl rfl) rfl ?_
    refine o_ev (ev_assign rfl) rfl ?_
    refine o_ev (ev_assign rfl) rfl ?_
    refine o_nil (sq_n (w_seq (w_seq (w_region (?_)))))
    refine o_ev (ev_move rfl) rfl ?_
    refine o_ev (ev_neq_nil_val rfl) rfl ?_
    refine o_nil (sq_n (?_))
    refine w_if_true rfl (w_seq (w_region (?_)))
    refine o_ev (ev_move rfl) rfl ?_
    refine o_ev (ev_assign rfl) rfl ?_
    refine o_ev (ev_assign rfl) rfl ?_
    refine o_nil (sq_n (w_ret (sq_r (?_))))
    refine res_intro (vs := [_, _]) Tryz.results85 (.inr rfl) (.cons (.tmp rfl) (.cons (.tmp rfl) (.nil))) ?_
    exact ⟨_, by (repeat (first | exact Ka | refine Kb ?_ | refine Kc ?_ | refine Kf ?_ | refine Kd ?_ | refine Ke ?_ | refine Kh ?_ | refine Kg rfl ?_ | refine Ki ?_ | refine Kj ?_ | refine Kk ?_ | refine Kl ?_ | refine Km ?_ | refine Kn ?_ | refine Ko ?_)), .inl ⟨e, _, by rw [rdRising, he], rfl, rfl⟩⟩
  · skip
    obtain ⟨q1, q2, q3, q4⟩ := rdUpto_ok (fun x hx => hb x (List.mem_of_mem_drop hx)) he
    rw [List.length_drop] at q2
    refine o_ev (ev_move rfl) rfl ?_
    refine o_ev (ev_extract1 rfl rfl) rfl ?_
    refine o_ev (ev_extract1 rfl rfl) rfl ?_
    refine o_ev (ev_assign rfl) rfl ?_
    refine o_ev (ev_assign rfl) rfl ?_
    refine o_nil (sq_n (w_seq (w_seq (w_region (?_)))))
    refine o_ev (ev_move rfl) rfl ?_
    refine o_ev (ev_neq_nil_nil rfl) rfl ?_
    refine o_nil (sq_n (?_))
    refine w_if_false rfl (w_skip (sq_n (w_seq (w_region (?_)))))
    refine o_ev (ev_assign rfl) rfl ?_
    refine o_nil (sq_n (w_seq (w_region (?_))))
    refine o_ev (ev_assign rfl) rfl ?_
    refine o_nil (sq_n (w_seq (w_seq (w_region (?_)))))
    refine o_ev (ev_move rfl) rfl ?_
    refine o_ev (ev_move rfl) rfl ?_
    refine o_nil (sq_n (w_block (?_)))
    refine w_loop (SV × Nat × Int × List Int × Nat) (fun y => y.2.1 ≤ n ∧ -1 ≤ y.2.2.1 ∧ y.2.2.1 ≤ 9223372036854775807 ∧ k + m + y.2.2.2.2 ≤ xs.length ∧ y.2.2.2.1.length = y.2.1 ∧ rdRis n (-1) (xs.drop (k + m)) = glueR y.2.2.2.1 y.2.2.2.2 (rdRis (n - y.2.1) y.2.2.1 (xs.drop (k + m + y.2.2.2.2)))) (fun y => [(0, .pointer (some ⟨b, 0, none⟩)), (8, y.1.val), (9, .int .i64 y.2.2.1), (21, .int .i64 ((n : Nat) : Int)), (22, .int .i64 ((y.2.1 : Nat) : Int))]) (fun y => Row y.1 eI y.2.2.2.1 :: Rd b (xs, k + m + y.2.2.2.2) :: R) (fun y => n - y.2.1) ((SV.nil, 0, -1, [], 0)) ?_ ?_ ?_ ?_
    · (try dsimp only)
      refine ⟨Nat.zero_le _, by omega, by omega, by omega, rfl, ?_⟩
      simp only [Nat.add_zero, Nat.sub_zero]
      cases rdRis n (-1) (xs.drop (k + m)) with
      | ok p => simp [glueR]
      | error e => rfl
    · repeat (first | exact Sub.nil | refine Sub.cons rfl ?_)
    · (try dsimp only)
      (repeat (first | exact Ka | refine Kb ?_ | refine Kc ?_ | refine Kf ?_ | refine Kd ?_ | refine Ke ?_ | refine Kh ?_ | refine Kg rfl ?_ | refine Ki ?_ | refine Kj ?_ | refine Kk ?_ | refine Kl ?_ | refine Km ?_ | refine Kn ?_ | refine Ko ?_))
    · rintro ⟨s, j, last, zs, a⟩ ⟨hj, hl1, hl2, ha, hz, hI⟩
      (try dsimp only at *)
      refine w_seq (w_region (?_))
      refine o_ev (ev_lss rfl rfl) rfl ?_
      refine o_nil (sq_n (w_seq (?_)))
      refine w_if rfl (fun h1 => ?_) (fun h1 => ?_)
      · skip
        try simp only [Za, Zb, Zc, Zd, Ze, Zf, Zg, Zh] at h1
        obtain ⟨d, hd⟩ : ∃ d, n - j = d + 1 := ⟨n - j - 1, by omega⟩
        rw [hd, rdRis] at hI
        refine w_skip (sq_n (w_seq (w_block (w_seq (w_region (?_))))))
        refine o_ev (ev_move rfl) rfl ?_
        refine o_st (st_call (vs := [_]) rfl (rUvarint ha hn hb)) rfl ?_
        rintro v1 H1 hK
        rcases hK with ⟨e, he2, rfl, rfl⟩ | ⟨v, c, he2, rfl, rfl⟩
        all_goals rw [he2] at hI
        all_goals simp only [] at hI
        · skip
          refine o_ev (ev_move rfl) rfl ?_
          refine o_ev (ev_extract1 rfl rfl) rfl ?_
          refine o_ev (ev_extract1 rfl rfl) rfl ?_
          refine o_ev (ev_assign rfl) rfl ?_
          refine o_ev (ev_assign rfl) rfl ?_
          refine o_nil (sq_n (w_seq (w_seq (w_region (?_)))))
          refine o_ev (ev_move rfl) rfl ?_
          refine o_ev (ev_neq_nil_val rfl) rfl ?_
          refine o_nil (sq_n (?_))
          refine w_if_true rfl (w_seq (w_region (?_)))
          refine o_ev (ev_move rfl) rfl ?_
          refine o_ev (ev_assign rfl) rfl ?_
          refine o_ev (ev_assign rfl) rfl ?_
          refine o_nil (sq_n (w_ret (sq_r (bk_r (sq_r (lq_r (bk_r (sq_r (?_)))))))))
          refine res_intro (vs := [_, _]) Tryz.results85 (.inr rfl) (.cons (.tmp rfl) (.cons (.tmp rfl) (.nil))) ?_
          exact ⟨_, by (repeat (first | exact Ka | refine Kb ?_ | refine Kc ?_ | refine Kf ?_ | refine Kd ?_ | refine Ke ?_ | refine Kh ?_ | refine Kg rfl ?_ | refine Ki ?_ | refine Kj ?_ | refine Kk ?_ | refine Kl ?_ | refine Km ?_ | refine Kn ?_ | refine Ko ?_)), .inl ⟨e, _, by rw [rdRising, he]; simp only [List.drop_drop]; rw [hI]; rfl, rfl, rfl⟩⟩
        · skip
          obtain ⟨p1, p2, p3, p4, p5, p6⟩ := rdUv_ok _ 0 v c (fun x hx => hb x (List.mem_of_mem_drop hx)) (by omega) he2
          rw [List.length_drop] at p4
          refine o_ev (ev_move rfl) rfl ?_
          refine o_ev (ev_extract1 rfl rfl) rfl ?_
          refine o_ev (ev_extract1 rfl rfl) rfl ?_
          refine o_ev (ev_assign rfl) rfl ?_
          refine o_ev (ev_assign rfl) rfl ?_
          refine o_nil (sq_n (w_seq (w_seq (w_region (?_)))))
          refine o_ev (ev_move rfl) rfl ?_
          refine o_ev (ev_neq_nil_nil rfl) rfl ?_
          refine o_nil (sq_n (?_))
          refine w_if_false rfl (w_skip (sq_n (w_seq (w_seq (w_region (?_))))))
          refine o_ev (ev_move rfl) rfl ?_
          refine o_ev (ev_eql rfl rfl) rfl ?_
          refine o_split (ev_move rfl) rfl (fun h2 => ?_) (fun h2 => ?_)
          · skip
            try simp only [Za, Zb, Zc, Zd, Ze, Zf, Zg, Zh] at h2
            rw [if_pos (by omega)] at hI
            refine o_off rfl rfl rfl ?_
            refine o_off rfl rfl rfl ?_
            refine o_off rfl rfl rfl ?_
            refine o_off rfl rfl rfl ?_
            refine o_off rfl rfl rfl ?_
            refine o_ev (ev_pick_t rfl rfl) rfl ?_
            refine o_nil (sq_n (?_))
            refine w_if_true rfl (w_seq (?_))
            refine w_still Tryz_mixed ?_
            refine an_first 0 rfl rfl (by kernel_rfl) rfl (qv_at (ev_load rfl)) ?_
            refine an_first 1 rfl rfl (by kernel_rfl) rfl (qv_at (ev_assign rfl)) ?_
            refine an_first 2 rfl rfl (by kernel_rfl) rfl (qv_at (ev_assign rfl)) ?_
            refine an_nil (by kernel_rfl) (fun _ _ => rfl) (sq_n (w_ret (sq_r (bk_r (sq_r (lq_r (bk_r (sq_r (?_)))))))))
            refine res_intro (vs := [_, _]) Tryz.results85 (.inr rfl) (.cons (.tmp rfl) (.cons (.tmp rfl) (.nil))) ?_
            exact ⟨_, by (repeat (first | exact Ka | refine Kb ?_ | refine Kc ?_ | refine Kf ?_ | refine Kd ?_ | refine Ke ?_ | refine Kh ?_ | refine Kg rfl ?_ | refine Ki ?_ | refine Kj ?_ | refine Kk ?_ | refine Kl ?_ | refine Km ?_ | refine Kn ?_ | refine Ko ?_)), .inl ⟨4, _, by rw [rdRising, he]; simp only [List.drop_drop]; rw [hI]; rfl, rfl, rfl⟩⟩
          · skip
            try simp only [Za, Zb, Zc, Zd, Ze, Zf, Zg, Zh] at h2
            refine o_on_ev rfl rfl rfl (ev_move rfl) ?_
            refine o_on_ev rfl rfl rfl (ev_move rfl) ?_
            refine o_on_ev rfl rfl rfl (ev_sub rfl rfl (by omega)) ?_
            refine o_on_ev rfl rfl rfl (ev_convL 18446744073709551616 rfl rfl rfl (9223372036854775806 - last).toNat (by omega) (by omega)) ?_
            refine o_on_ev rfl rfl rfl (ev_gtr rfl rfl) ?_
            refine o_ev (ev_pick_f rfl rfl) rfl ?_
            refine o_nil (sq_n (?_))
            refine w_if rfl (fun h3 => ?_) (fun h3 => ?_)
            · skip
              try simp only [Za, Zb, Zc, Zd, Ze, Zf, Zg, Zh] at h3
              rw [if_pos (by omega)] at hI
              refine w_seq (?_)
              refine w_still Tryz_mixed ?_
              refine an_first 0 rfl rfl (by kernel_rfl) rfl (qv_at (ev_load rfl)) ?_
              refine an_first 1 rfl rfl (by kernel_rfl) rfl (qv_at (ev_assign rfl)) ?_
              refine an_first 2 rfl rfl (by kernel_rfl) rfl (qv_at (ev_assign rfl)) ?_
              refine an_nil (by kernel_rfl) (fun _ _ => rfl) (sq_n (w_ret (sq_r (bk_r (sq_r (lq_r (bk_r (sq_r (?_)))))))))
              refine res_intro (vs := [_, _]) Tryz.results85 (.inr rfl) (.cons (.tmp rfl) (.cons (.tmp rfl) (.nil))) ?_
              exact ⟨_, by (repeat (first | exact Ka | refine Kb ?_ | refine Kc ?_ | refine Kf ?_ | refine Kd ?_ | refine Ke ?_ | refine Kh ?_ | refine Kg rfl ?_ | refine Ki ?_ | refine Kj ?_ | refine Kk ?_ | refine Kl ?_ | refine Km ?_ | refine Kn ?_ | refine Ko ?_)), .inl ⟨4, _, by rw [rdRising, he]; simp only [List.drop_drop]; rw [hI]; rfl, rfl, rfl⟩⟩
            · skip
              try simp only [Za, Zb, Zc, Zd, Ze, Zf, Zg, Zh] at h3
              rw [if_neg (by omega)] at hI
              simp only [List.drop_drop] at hI
              refine w_skip (sq_n (w_seq (w_region (?_))))
              refine o_ev (ev_move rfl) rfl ?_
              refine o_ev (ev_move rfl) rfl ?_
              refine o_ev (ev_conv64 rfl (by omega)) rfl ?_
              refine o_ev (ev_addE rfl rfl _ rfl) rfl ?_
              refine o_ev (ev_addE rfl rfl (last + v + 1) (by rw [IntKind.wrap_i64, IntKind.wrap_i64]; omega)) rfl ?_
              refine o_ev (ev_assign rfl) rfl ?_
              refine o_nil (sq_n (w_region (?_)))
              refine o_ev (ev_move rfl) rfl ?_
              refine o_ev (ev_move rfl) rfl ?_
              refine o_st (st_build1 eI rfl rfl) rfl ?_
              rintro _ _ ⟨s1, rfl, rfl⟩
              refine o_st (st_append rfl rfl rfl rfl (by first | omega | (simp only [List.length_append, List.length_cons, List.length_nil]; omega) | (simp; omega)) (by first | omega | (simp only [List.length_append, List.length_cons, List.length_nil]; omega) | (simp; omega))) rfl ?_
              rintro _ _ ⟨s2, rfl, rfl⟩
              refine o_ev (ev_assign rfl) rfl ?_
              refine o_nil (bk_n (sq_n (w_region (?_))))
              refine o_ev (ev_add rfl rfl (by omega)) rfl ?_
              refine o_ev (ev_move rfl) rfl ?_
              refine o_nil (?_)
              skip
              refine lq_n ((s2, j + 1, last + v + 1, zs ++ [last + v + 1], a + c)) ?_ ?_ ?_ ?_
              · (try dsimp only)
                refine ⟨by omega, by omega, by omega, by omega, by simp; omega, ?_⟩
                rw [hI, show n - (j + 1) = d by omega, show k + m + (a + c) = k + m + a + c by omega]
                cases rdRis d (last + v + 1) (xs.drop (k + m + a + c)) with
                | error e => rfl
                | ok p =>
                  obtain ⟨r, c'⟩ := p
                  simp only [glueR, Except.ok.injEq, Prod.mk.injEq, List.append_assoc, List.cons_append, List.nil_append]
                  exact ⟨trivial, by omega⟩
              · (try dsimp only)
                omega
              · repeat (first | exact Sub.nil | refine Sub.cons rfl ?_)
              · (try dsimp only)
                rw [show k + m + (a + c) = k + m + a + c by omega]
                (repeat (first | exact Ka | refine Kb ?_ | refine Kc ?_ | refine Kf ?_ | refine Kd ?_ | refine Ke ?_ | refine Kh ?_ | refine Kg rfl ?_ | refine Ki ?_ | refine Kj ?_ | refine Kk ?_ | refine Kl ?_ | refine Km ?_ | refine Kn ?_ | refine Ko ?_))
      · skip
        try simp only [Za, Zb, Zc, Zd, Ze, Zf, Zg, Zh] at h1
        obtain rfl : j = n := by omega
        rw [Nat.sub_self, rdRis] at hI
        have hR : rdRising most (xs.drop k) = .ok (zs, m + a) := by
          rw [rdRising, he]; simp only [List.drop_drop]; rw [hI]; simp [glueR]
        refine w_exit (sq_e (lq_e (bk_h (sq_n (w_seq (w_region (?_)))))))
        refine o_ev (ev_move rfl) rfl ?_
        refine o_ev (ev_assign rfl) rfl ?_
        refine o_ev (ev_assign rfl) rfl ?_
        refine o_nil (sq_n (w_ret (?_)))
        refine res_intro (vs := [_, _]) Tryz.results85 (.inr rfl) (.cons (.tmp rfl) (.cons (.tmp rfl) (.nil))) ?_
        exact ⟨_, by (repeat (first | exact Ka | refine Kb ?_ | refine Kc ?_ | refine Kf ?_ | refine Kd ?_ | refine Ke ?_ | refine Kh ?_ | refine Kg rfl ?_ | refine Ki ?_ | refine Kj ?_ | refine Kk ?_ | refine Kl ?_ | refine Km ?_ | refine Kn ?_ | refine Ko ?_)), .inr ⟨zs, m + a, s, hR, rfl, by rw [← Nat.add_assoc]⟩⟩

theorem rRising {G : Base} {H R : Heap} {b k most : Nat} {xs : List Nat} [hg : Glb G R] [hr : Rem H Rd b (xs, k) R] (hk : k ≤ xs.length) (hn : xs.length ≤ 1000000000000) (hb : ∀ x ∈ xs, x < 256) (hm : most ≤ 1000000000000) : SC G Tryz.prog 48 [.pointer (some ⟨b, 0, none⟩), .int .i64 ((most : Nat) : Int)] H (fun v H' =>
    (∃ e, rdRising most (xs.drop k) = .error e ∧ v = .tuple #[.slice none 0 0, G.err e] ∧ H' = Rd b (xs, k) :: R) ∨ (∃ l m, ∃ s' : SV, rdRising most (xs.drop k) = .ok (l, m) ∧ v = .tuple #[s'.val, .nilIface] ∧ H' = Row s' eI l :: Rd b (xs, k + m) :: R)) := by
  refine SC.rem (h := hr) ?_
  refine SC.out (sc_walk Tryz.func48 rfl Tryz.ntmps48 (by kernel_rfl) (Nat.le_of_ble_eq_true rfl) ?_)
  refine w_seq (w_region (?_))
  refine o_ev (ev_assign rfl) rfl ?_
  refine o_ev (ev_assign rfl) rfl ?_
  refine o_nil (sq_n (w_seq (w_region (?_))))
  refine o_unrd b fun s => ?_
  refine o_ev (ev_move rfl) rfl ?_
  refine o_ev (ev_nilCheck rfl) rfl ?_
  refine o_ev (ev_fieldAddr rfl) rfl ?_
  refine o_ev (ev_fieldAddr rfl) rfl ?_
  refine o_ev (ev_load rfl) rfl ?_
  refine o_ev (ev_assign rfl) rfl ?_
  refine o_nil (sq_n (w_seq (w_region (?_))))
  refine o_hsub (H' := Rd b (xs, k) :: R) (by (repeat (first | exact Ka | refine Kb ?_ | refine Kc ?_ | refine Kf ?_ | refine Kd ?_ | refine Ke ?_ | refine Kh ?_ | refine Kg rfl ?_ | refine Ki ?_ | refine Kj ?_ | refine Kk ?_ | refine Kl ?_ | refine Km ?_ | refine Kn ?_ | refine Ko ?_))) ?_
  refine o_ev (ev_move rfl) rfl ?_
  refine o_ev (ev_move rfl) rfl ?_
  refine o_st (st_call (vs := [_, _]) rfl (rRis hk hn hb hm)) rfl ?_
  rintro v1 H1 hK
  rcases hK with ⟨e, k', he, rfl, rfl⟩ | ⟨l, m, s', he, rfl, rfl⟩
  · skip
    refine o_ev (ev_move rfl) rfl ?_
    refine o_ev (ev_extract1 rfl rfl) rfl ?_
    refine o_ev (ev_extract1 rfl rfl) rfl ?_
    refine o_ev (ev_assign rfl) rfl ?_
    refine o_ev (ev_assign rfl) rfl ?_
    refine o_nil (sq_n (w_seq (w_seq (w_region (?_)))))
    refine o_ev (ev_move rfl) rfl ?_
    refine o_ev (ev_neq_nil_val rfl) rfl ?_
    refine o_nil (sq_n (?_))
    refine w_if_true rfl (w_seq (w_region (?_)))
    refine o_unrd b fun s => ?_
    refine o_ev (ev_move rfl) rfl ?_
    refine o_ev (ev_move rfl) rfl ?_
    refine o_ev (ev_nilCheck rfl) rfl ?_
    refine o_ev (ev_fieldAddr rfl) rfl ?_
    refine o_ev (ev_fieldAddr rfl) rfl ?_
    refine o_st (st_store rfl rfl rfl) rfl ?_
    rintro _ _ ⟨rfl, rfl⟩
    refine o_nil (sq_n (w_seq (w_region (?_))))
    refine o_ev (ev_move rfl) rfl ?_
    refine o_ev (ev_assign rfl) rfl ?_
    refine o_ev (ev_assign rfl) rfl ?_
    refine o_nil (sq_n (w_ret (sq_r (?_))))
    refine res_intro (vs := [_, _]) Tryz.results48 (.inr rfl) (.cons (.tmp rfl) (.cons (.tmp rfl) (.nil))) ?_
    exact ⟨_, by (repeat (first | exact Ka | refine Kb ?_ | refine Kc ?_ | refine Kf ?_ | refine Kd ?_ | refine Ke ?_ | refine Kh ?_ | refine Kg rfl ?_ | refine Ki ?_ | refine Kj ?_ | refine Kk ?_ | refine Kl ?_ | refine Km ?_ | refine Kn ?_ | refine Ko ?_)), .inl ⟨e, he, rfl, rfl⟩⟩
  · skip
    refine o_ev (ev_move rfl) rfl ?_
    refine o_ev (ev_extract1 rfl rfl) rfl ?_
    refine o_ev (ev_extract1 rfl rfl) rfl ?_
    refine o_ev (ev_assign rfl) rfl ?_
    refine o_ev (ev_assign rfl) rfl ?_
    refine o_nil (sq_n (w_seq (w_seq (w_region (?_)))))
    refine o_ev (ev_move rfl) rfl ?_
    refine o_ev (ev_neq_nil_nil rfl) rfl ?_
    refine o_nil (sq_n (?_))
    refine w_if_false rfl (w_skip (sq_n (w_seq (w_region (?_)))))
    refine o_ev (ev_move rfl) rfl ?_
    refine o_ev (ev_assign rfl) rfl ?_
    refine o_ev (ev_assign rfl) rfl ?_
    refine o_nil (sq_n (w_ret (?_)))
    refine res_intro (vs := [_, _]) Tryz.results48 (.inr rfl) (.cons (.tmp rfl) (.cons (.tmp rfl) (.nil))) ?_
    exact ⟨_, by (repeat (first | exact Ka | refine Kb ?_ | refine Kc ?_ | refine Kf ?_ | refine Kd ?_ | refine Ke ?_ | refine Kh ?_ | refine Kg rfl ?_ | refine Ki ?_ | refine Kj ?_ | refine Kk ?_ | refine Kl ?_ | refine Km ?_ | refine Kn ?_ | refine Ko ?_)), .inr ⟨l, m, s', he, rfl, rfl⟩⟩
end Go.Sx
namespace Go.Sx
open Go Go.Proofs
set_option maxRecDepth 100000
set_option linter.unusedSimpArgs false
set_option linter.unusedVariables false

/-! ## Sums -/
/-- One bit. -/
def bs (p r : Nat) : Nat := if r % 2 = 1 then (r / 2) ^^^ p else r / 2
def bs4 (p r : Nat) : Nat := bs p (bs p (bs p (bs p r)))
/-- One byte. -/
def crcB (p r x : Nat) : Nat := bs4 p (bs4 p (r ^^^ x))
def crcR (p r : Nat) (l : List Nat) : Nat := l.foldl (crcB p) r
def zipP : Nat := 3988292384
def sealP : Nat := 2197175160
def zipS (l : List Nat) : Nat := 4294967295 ^^^ crcR zipP 4294967295 l
def sealS (l : List Nat) : Nat := 4294967295 ^^^ crcR sealP 4294967295 l

theorem bs_xor (p a b : Nat) : bs p (a ^^^ b) = bs p a ^^^ bs p b := by
  have h1 : (a ^^^ b) / 2 = a / 2 ^^^ b / 2 := Nat.xor_div_two_pow (n := 1)
  have h2 : (a ^^^ b) % 2 = (a % 2) ^^^ (b % 2) := Nat.xor_mod_two_pow (n := 1)
  unfold bs
  rw [h1, h2]
  rcases Nat.mod_two_eq_zero_or_one a with ha | ha <;> rcases Nat.mod_two_eq_zero_or_one b with hb | hb <;> rw [ha, hb]
  · simp
  · simp [Nat.xor_assoc]
  · simp only [Nat.xor_zero, ↓reduceIte, Nat.zero_ne_one]
    rw [Nat.xor_assoc, Nat.xor_comm (b / 2) p, ← Nat.xor_assoc]
  · simp only [Nat.xor_self, Nat.zero_ne_one, ↓reduceIte]
    rw [Nat.xor_assoc, ← Nat.xor_assoc p, Nat.xor_comm p, Nat.xor_assoc (b / 2), Nat.xor_self, Nat.xor_zero]
theorem bs4_xor (p a b : Nat) : bs4 p (a ^^^ b) = bs4 p a ^^^ bs4 p b := by simp only [bs4, bs_xor]
theorem bs_even (p q : Nat) : bs p (2 * q) = q := by unfold bs; rw [if_neg (by omega)]; omega
theorem bs4_hi (p q : Nat) : bs4 p (16 * q) = q := by
  unfold bs4
  rw [show 16 * q = 2 * (2 * (2 * (2 * q))) by omega, bs_even, bs_even, bs_even, bs_even]
theorem split16 (r : Nat) : r = (16 * (r / 16)) ^^^ (r % 16) := by
  have h : (r / 16) <<< 4 + r % 16 = (r / 16) <<< 4 ||| r % 16 := Nat.shiftLeft_add_eq_or_of_lt (Nat.mod_lt r (by decide)) _
  have h2 : (r / 16) <<< 4 = 16 * (r / 16) := by rw [Nat.shiftLeft_eq]; omega
  rw [h2] at h
  have h3 : 16 * (r / 16) + r % 16 = r := Nat.div_add_mod r 16
  have h4 : (16 * (r / 16)) ^^^ (r % 16) = (16 * (r / 16)) ||| (r % 16) := by
    apply Nat.eq_of_testBit_eq
    intro i
    rw [Nat.testBit_xor, Nat.testBit_or, show 16 * (r / 16) = 2 ^ 4 * (r / 16) from rfl, show r % 16 = r % 2 ^ 4 from rfl, Nat.testBit_two_pow_mul, Nat.testBit_mod_two_pow]
    by_cases hi : i < 4
    · simp [hi, show ¬ (4 ≤ i) by omega]
    · simp [hi]
  rw [h4, ← h, h3]
theorem nib (p r : Nat) : (r / 2 ^ 4) ^^^ bs4 p (r % 16) = bs4 p r := by
  conv => rhs; rw [split16 r]
  rw [bs4_xor, bs4_hi]
theorem bs_lt {p r : Nat} (hp : p < 4294967296) (hr : r < 4294967296) : bs p r < 4294967296 := by
  unfold bs
  split
  · exact Nat.xor_lt_two_pow (n := 32) (by omega) hp
  · omega
theorem bs4_lt {p r : Nat} (hp : p < 4294967296) (hr : r < 4294967296) : bs4 p r < 4294967296 := bs_lt hp (bs_lt hp (bs_lt hp (bs_lt hp hr)))
theorem xor_lt {a b : Nat} (ha : a < 4294967296) (hb : b < 4294967296) : a ^^^ b < 4294967296 := Nat.xor_lt_two_pow (n := 32) ha hb
theorem crcB_lt {p r x : Nat} (hp : p < 4294967296) (hr : r < 4294967296) (hx : x < 256) : crcB p r x < 4294967296 := bs4_lt hp (bs4_lt hp (xor_lt hr (by omega)))
theorem crcR_lt {p : Nat} (hp : p < 4294967296) : ∀ (l : List Nat) (r : Nat), r < 4294967296 → (∀ x ∈ l, x < 256) → crcR p r l < 4294967296
  | [], r, hr, _ => hr
  | x :: l, r, hr, hb => crcR_lt hp l (crcB p r x) (crcB_lt hp hr (hb x (by simp))) (fun y hy => hb y (by simp [hy]))
theorem crcR_snoc (p r : Nat) (l : List Nat) (x : Nat) : crcR p r (l ++ [x]) = crcB p (crcR p r l) x := by simp [crcR]
theorem and15 (r : Nat) : r &&& 15 = r % 16 := Nat.and_two_pow_sub_one_eq_mod r 4
theorem and1 (r : Nat) : r &&& 1 = r % 2 := Nat.and_two_pow_sub_one_eq_mod r 1

def zipT : List Nat := [0, 0x1db71064, 0x3b6e20c8, 0x26d930ac, 0x76dc4190, 0x6b6b51f4, 0x4db26158, 0x5005713c, 0xedb88320, 0xf00f9344, 0xd6d6a3e8, 0xcb61b38c, 0x9b64c2b0, 0x86d3d2d4, 0xa00ae278, 0xbdbdf21c]
def sealT : List Nat := [0, 0x105ec76f, 0x20bd8ede, 0x30e349b1, 0x417b1dbc, 0x5125dad3, 0x61c69362, 0x7198540d, 0x82f63b78, 0x92a8fc17, 0xa24bb5a6, 0xb21572c9, 0xc38d26c4, 0xd3d3e1ab, 0xe330a81a, 0xf36e6f75]
theorem zip_aux : ∀ i : Fin 16, zipT[i.val]? = some (bs4 zipP i.val) := by decide +kernel
theorem seal_aux : ∀ i : Fin 16, sealT[i.val]? = some (bs4 sealP i.val) := by decide +kernel
def tabV (l : List Nat) : List Value := l.map fun n => Value.int .u32 ((n : Nat) : Int)
theorem zip_get (r : Nat) : (zipT.map fun n => Value.int .u32 ((n : Nat) : Int))[0 + (r &&& 15) * 1]? = some (.int .u32 ((bs4 zipP (r % 16) : Nat) : Int)) := by
  rw [Nat.zero_add, Nat.mul_one, and15, List.getElem?_map, zip_aux ⟨r % 16, by omega⟩]; rfl
theorem seal_get (r : Nat) : (sealT.map fun n => Value.int .u32 ((n : Nat) : Int))[0 + (r &&& 15) * 1]? = some (.int .u32 ((bs4 sealP (r % 16) : Nat) : Int)) := by
  rw [Nat.zero_add, Nat.mul_one, and15, List.getElem?_map, seal_aux ⟨r % 16, by omega⟩]; rfl

theorem rollP {G : Base} {H : Heap} {s : SV} {xs : List Nat} [Tab H 26 zipT] [Sl H s eB xs] (r0 : Nat) (hr : r0 < 4294967296) (hn : xs.length ≤ 1000000000000) (hb : ∀ x ∈ xs, x < 256) : SC G Tryz.prog 169 [.int .u32 ((r0 : Nat) : Int), s.val] H (fun v H' => v = .int .u32 ((crcR zipP r0 xs : Nat) : Int) ∧ H' = H) := by
  refine SC.out (sc_walk Tryz.func169 rfl Tryz.ntmps169 (by kernel_rfl) (Nat.le_of_ble_eq_true rfl) ?_)
  refine w_seq (w_region (?_))
  refine o_ev (ev_assign rfl) rfl ?_
  refine o_nil (sq_n (w_seq (w_seq (w_region (?_)))))
  refine o_ev (ev_move rfl) rfl ?_
  refine o_ev (ev_len1 rfl) rfl ?_
  refine o_ev (ev_move rfl) rfl ?_
  refine o_nil (sq_n (w_block (?_)))
  refine w_loop (Nat × Nat) (fun y => y.1 ≤ xs.length ∧ y.2 = crcR zipP r0 (xs.take y.1) ∧ y.2 < 4294967296) (fun y => [(0, .int .u32 ((y.2 : Nat) : Int)), (7, s.val), (8, .int .i64 ((xs.length : Nat) : Int)), (9, .int .i64 ((y.1 : Nat) : Int))]) (fun _ => H) (fun y => xs.length - y.1) ((0, r0)) ?_ ?_ ?_ ?_
  · (try dsimp only)
    exact ⟨Nat.zero_le _, rfl, hr⟩
  · repeat (first | exact Sub.nil | refine Sub.cons rfl ?_)
  · (try dsimp only)
    (repeat (first | exact Ka | refine Kb ?_ | refine Kc ?_ | refine Kf ?_ | refine Kd ?_ | refine Ke ?_ | refine Kh ?_ | refine Kg rfl ?_ | refine Ki ?_ | refine Kj ?_ | refine Kk ?_ | refine Kl ?_ | refine Km ?_ | refine Kn ?_ | refine Ko ?_))
  · rintro ⟨i, r⟩ ⟨hi, hI, hr1⟩
    (try dsimp only at *)
    refine w_seq (w_region (?_))
    refine o_ev (ev_lss rfl rfl) rfl ?_
    refine o_nil (sq_n (w_seq (?_)))
    refine w_if rfl (fun h1 => ?_) (fun h1 => ?_)
    · skip
      try simp only [Za, Zb, Zc, Zd, Ze, Zf, Zg, Zh] at h1
      obtain ⟨x, hx⟩ : ∃ x, xs[i]? = some x := ⟨_, List.getElem?_eq_getElem (by omega)⟩
      have hxb := hb x (List.mem_of_getElem? hx)
      have h1x : r ^^^ x < 4294967296 := xor_lt hr1 (by omega)
      have h1z := zip_get (r ^^^ x)
      have h2b : bs4 zipP ((r ^^^ x) % 16) < 4294967296 := bs4_lt (by decide) (by omega)
      have h2x : bs4 zipP (r ^^^ x) < 4294967296 := bs4_lt (by decide) h1x
      have h2z := zip_get (bs4 zipP (r ^^^ x))
      have h3b : bs4 zipP (bs4 zipP (r ^^^ x) % 16) < 4294967296 := bs4_lt (by decide) (by omega)
      refine w_skip (sq_n (w_seq (w_block (w_seq (w_region (?_))))))
      refine o_ev (ev_indexAddr rfl rfl _ rfl (by omega)) rfl ?_
      refine o_ev (ev_load_el rfl (by rfl) (by rfl) _ (by first | assumption | rfl | exact List.getElem?_eq_getElem (by omega))) rfl ?_
      refine o_ev (ev_assign rfl) rfl ?_
      refine o_nil (sq_n (w_seq (w_region (?_))))
      refine o_ev (ev_move rfl) rfl ?_
      refine o_ev (ev_move rfl) rfl ?_
      refine o_ev ((by first | exact ev_convL 4294967296 rfl rfl rfl _ rfl (by omega) | exact ev_convM 4294967296 rfl rfl rfl _ rfl)) rfl ?_
      refine o_ev (ev_xorM 4294967296 rfl rfl rfl rfl _ _ rfl rfl (by first | decide | omega) (by first | decide | omega)) rfl ?_
      refine o_ev (ev_assign rfl) rfl ?_
      refine o_nil (sq_n (w_seq (w_region (?_))))
      refine o_ev (ev_move rfl) rfl ?_
      refine o_ev (ev_shru rfl rfl _ 4 rfl rfl (by first | decide | (show _ ≤ 32; omega))) rfl ?_
      refine o_ev (ev_move rfl) rfl ?_
      refine o_ev (ev_andM 4294967296 rfl rfl rfl rfl _ 15 rfl rfl (by first | decide | omega) (by first | decide | omega)) rfl ?_
      refine o_ev (ev_indexAddr_arr rfl rfl ((r ^^^ x) &&& 15) rfl (by rw [and15]; omega)) rfl ?_
      refine o_ev (ev_load_at rfl h1z) rfl ?_
      refine o_ev (ev_xorM 4294967296 rfl rfl rfl rfl _ _ rfl rfl (by first | decide | omega) (by first | decide | omega)) rfl ?_
      refine o_ev (ev_assign rfl) rfl ?_
      refine o_nil (sq_n (w_region (?_)))
      rw [nib]
      refine o_ev (ev_move rfl) rfl ?_
      refine o_ev (ev_shru rfl rfl _ 4 rfl rfl (by first | decide | (show _ ≤ 32; omega))) rfl ?_
      refine o_ev (ev_move rfl) rfl ?_
      refine o_ev (ev_andM 4294967296 rfl rfl rfl rfl _ 15 rfl rfl (by first | decide | omega) (by first | decide | omega)) rfl ?_
      refine o_ev (ev_indexAddr_arr rfl rfl (bs4 zipP (r ^^^ x) &&& 15) rfl (by rw [and15]; omega)) rfl ?_
      refine o_ev (ev_load_at rfl h2z) rfl ?_
      refine o_ev (ev_xorM 4294967296 rfl rfl rfl rfl _ _ rfl rfl (by first | decide | omega) (by first | decide | omega)) rfl ?_
      refine o_ev (ev_assign rfl) rfl ?_
      refine o_nil (bk_n (sq_n (w_region (?_))))
      rw [nib]
      refine o_ev (ev_add rfl rfl (by omega)) rfl ?_
      refine o_ev (ev_move rfl) rfl ?_
      refine o_nil (?_)
      skip
      refine lq_n ((i + 1, bs4 zipP (bs4 zipP (r ^^^ x)))) ?_ ?_ ?_ ?_
      · (try dsimp only)
        refine ⟨by omega, ?_, bs4_lt (by decide) h2x⟩
        rw [take_succ_get hx, crcR_snoc, ← hI]; rfl
      · (try dsimp only)
        omega
      · repeat (first | exact Sub.nil | refine Sub.cons rfl ?_)
      · (try dsimp only)
        (repeat (first | exact Ka | refine Kb ?_ | refine Kc ?_ | refine Kf ?_ | refine Kd ?_ | refine Ke ?_ | refine Kh ?_ | refine Kg rfl ?_ | refine Ki ?_ | refine Kj ?_ | refine Kk ?_ | refine Kl ?_ | refine Km ?_ | refine Kn ?_ | refine Ko ?_))
    · skip
      try simp only [Za, Zb, Zc, Zd, Ze, Zf, Zg, Zh] at h1
      obtain rfl : i = xs.length := by omega
      rw [List.take_length] at hI
      refine w_exit (sq_e (lq_e (bk_h (sq_n (w_seq (w_region (?_)))))))
      refine o_ev (ev_move rfl) rfl ?_
      refine o_ev (ev_assign rfl) rfl ?_
      refine o_nil (sq_n (w_ret (?_)))
      refine res_intro (vs := [_]) Tryz.results169 (.inr rfl) (.cons (.tmp rfl) (.nil)) ?_
      exact ⟨_, Ka, by rw [hI]; rfl, rfl⟩
end Go.Sx
