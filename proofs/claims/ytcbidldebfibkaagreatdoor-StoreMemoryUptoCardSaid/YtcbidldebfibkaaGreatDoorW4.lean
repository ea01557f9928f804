import Derived.Test.YtcbidldebfibkaaGreatDoorFx
import Derived.Test.YtcbidldebfibkaaGreatDoorSxK
import Derived.Test.YtcbidldebfibkaaGreatDoorSxQ
set_option linter.unusedVariables false
set_option linter.unusedSimpArgs false
set_option linter.unusedSectionVars false
set_option linter.unnecessarySimpa false
namespace Go.Sx
open Go Go.Proofs
set_option maxRecDepth 100000
set_option linter.unusedSimpArgs false
set_option linter.unusedVariables false

/-- The bytes of a number: its digits to the base 128, the lowest first. -/
def uv (n : Nat) : List Nat := if n < 128 then [n] else (n % 128 + 128) :: uv (n / 128)
theorem uv_small {n : Nat} (h : n < 128) : uv n = [n] := by unfold uv; rw [if_pos h]
theorem uv_big {n : Nat} (h : ¬ n < 128) : uv n = (n % 128 + 128) :: uv (n / 128) := by rw [uv, if_neg h]
theorem uv_len : ∀ (k n : Nat), n < 128 ^ k → 0 < k → (uv n).length ≤ k := by
  intro k
  induction k with
  | zero => intro n _ h; omega
  | succ k ih =>
    intro n hn _
    by_cases h : n < 128
    · rw [uv_small h]; simp
    · rw [uv_big h, List.length_cons]
      have hk : 0 < k := by
        rcases Nat.eq_zero_or_pos k with rfl | hk
        · simp at hn; omega
        · exact hk
      have := ih (n / 128) (by rw [Nat.pow_succ] at hn; omega) hk
      omega
theorem uv_len10 {n : Nat} (h : n < 18446744073709551616) : (uv n).length ≤ 10 := uv_len 10 n (by omega) (by decide)
theorem uv_pos (n : Nat) : 0 < (uv n).length := by
  by_cases h : n < 128
  · rw [uv_small h]; simp
  · rw [uv_big h]; simp
theorem or128_aux : ∀ m : Fin 256, m.val ||| 128 = m.val % 128 + 128 := by decide +kernel
theorem or128 (n : Nat) : (n % 256) ||| 128 = n % 128 + 128 := by
  have := or128_aux ⟨n % 256, by omega⟩
  simp only at this
  rw [this]; omega

theorem newWriter {G : Base} {H : Heap} : SC G Tryz.prog 36 [] H (fun v H' => ∃ b, v = .pointer (some ⟨b, 0, none⟩) ∧ H' = Wr b [] :: H) := by
  refine SC.out (sc_walk Tryz.func36 rfl Tryz.ntmps36 (by kernel_rfl) (Nat.le_of_ble_eq_true rfl) ?_)
  refine w_seq (w_region (?_))
  refine o_ev (ev_assign rfl) rfl ?_
  refine o_nil (sq_n (w_seq (w_region (?_))))
  refine o_ev (ev_build (vs := []) rfl) rfl ?_
  refine o_st (st_box rfl) rfl ?_
  rintro _ _ ⟨b1, rfl, rfl⟩
  refine o_ev (ev_assign rfl) rfl ?_
  refine o_nil (sq_n (w_ret (?_)))
  refine res_intro (vs := [_]) Tryz.results36 (.inr rfl) (.cons (.tmp rfl) (.nil)) ?_
  exact ⟨_, by (repeat (first | exact Ka | refine Kb ?_ | refine Kc ?_ | refine Kf ?_ | refine Kd ?_ | refine Ke ?_ | refine Kh ?_ | refine Kg rfl ?_ | refine Ki ?_ | refine Kj ?_ | refine Kk ?_ | refine Kl ?_ | refine Km ?_ | refine Kn ?_ | refine Ko ?_)), _, rfl, rfl⟩

theorem wByte {G : Base} {H R : Heap} {b : Nat} {xs : List Nat} [hr : Rem H Wr b xs R] (x : Nat) (hn : xs.length ≤ 1000000000000) : SC G Tryz.prog 73 [.pointer (some ⟨b, 0, none⟩), .int .u8 (x : Int)] H (fun v H' => v = .tuple #[] ∧ H' = Wr b (xs ++ [x]) :: R) := by
  refine sc_wr hr fun s => ?_
  refine SC.out (sc_walk Tryz.func73 rfl Tryz.ntmps73 (by kernel_rfl) (Nat.le_of_ble_eq_true rfl) ?_)
  refine w_region (?_)
  refine o_ev (ev_move rfl) rfl ?_
  refine o_ev (ev_move rfl) rfl ?_
  refine o_ev (ev_nilCheck rfl) rfl ?_
  refine o_ev (ev_fieldAddr rfl) rfl ?_
  refine o_ev (ev_load rfl) rfl ?_
  refine o_ev (ev_move rfl) rfl ?_
  refine o_st (st_build1 eB rfl rfl) rfl ?_
  rintro _ _ ⟨s1, rfl, rfl⟩
  refine o_st (st_append rfl rfl rfl rfl (by first | omega | (simp only [List.length_append, List.length_cons, List.length_nil]; omega) | (simp; omega)) (by first | omega | (simp only [List.length_append, List.length_cons, List.length_nil]; omega) | (simp; omega))) rfl ?_
  rintro _ _ ⟨s2, rfl, rfl⟩
  refine o_ev (ev_nilCheck rfl) rfl ?_
  refine o_ev (ev_fieldAddr rfl) rfl ?_
  refine o_st (st_store rfl rfl rfl) rfl ?_
  rintro _ _ ⟨rfl, rfl⟩
  refine o_nil (?_)
  refine res_intro (vs := []) Tryz.results73 (.inl rfl) (.nil) ?_
  exact ⟨_, by (repeat (first | exact Ka | refine Kb ?_ | refine Kc ?_ | refine Kf ?_ | refine Kd ?_ | refine Ke ?_ | refine Kh ?_ | refine Kg rfl ?_ | refine Ki ?_ | refine Kj ?_ | refine Kk ?_ | refine Kl ?_ | refine Km ?_ | refine Kn ?_ | refine Ko ?_)), rfl, rfl⟩

theorem wRaw {G : Base} {H R : Heap} {b : Nat} {s2 : SV} {xs ys : List Nat} [hr : Rem H Wr b xs R] [Sl R s2 eB ys] (hn : xs.length ≤ 1000000000000) (hm : ys.length ≤ 1000000000000) : SC G Tryz.prog 76 [.pointer (some ⟨b, 0, none⟩), s2.val] H (fun v H' => v = .tuple #[] ∧ H' = Wr b (xs ++ ys) :: R) := by
  refine sc_wr hr fun s => ?_
  refine SC.out (sc_walk Tryz.func76 rfl Tryz.ntmps76 (by kernel_rfl) (Nat.le_of_ble_eq_true rfl) ?_)
  refine w_region (?_)
  refine o_ev (ev_move rfl) rfl ?_
  refine o_ev (ev_move rfl) rfl ?_
  refine o_ev (ev_nilCheck rfl) rfl ?_
  refine o_ev (ev_fieldAddr rfl) rfl ?_
  refine o_ev (ev_load rfl) rfl ?_
  refine o_ev (ev_move rfl) rfl ?_
  refine o_st (st_append rfl rfl rfl rfl (by first | omega | (simp only [List.length_append, List.length_cons, List.length_nil]; omega) | (simp; omega)) (by first | omega | (simp only [List.length_append, List.length_cons, List.length_nil]; omega) | (simp; omega))) rfl ?_
  rintro _ _ ⟨s1, rfl, rfl⟩
  refine o_ev (ev_nilCheck rfl) rfl ?_
  refine o_ev (ev_fieldAddr rfl) rfl ?_
  refine o_st (st_store rfl rfl rfl) rfl ?_
  rintro _ _ ⟨rfl, rfl⟩
  refine o_nil (?_)
  refine res_intro (vs := []) Tryz.results76 (.inl rfl) (.nil) ?_
  exact ⟨_, by (repeat (first | exact Ka | refine Kb ?_ | refine Kc ?_ | refine Kf ?_ | refine Kd ?_ | refine Ke ?_ | refine Kh ?_ | refine Kg rfl ?_ | refine Ki ?_ | refine Kj ?_ | refine Kk ?_ | refine Kl ?_ | refine Km ?_ | refine Kn ?_ | refine Ko ?_)), rfl, rfl⟩

theorem wUvarint {G : Base} {H R : Heap} {b : Nat} {xs : List Nat} [hr : Rem H Wr b xs R] (x : Nat) (hx : x < 18446744073709551616) (hn : xs.length ≤ 1000000000000) : SC G Tryz.prog 37 [.pointer (some ⟨b, 0, none⟩), .int .u64 (x : Int)] H (fun v H' => v = .tuple #[] ∧ H' = Wr b (xs ++ uv x) :: R) := by
  refine sc_wr hr fun s => ?_
  have hl := uv_len10 hx
  refine SC.out (sc_walk Tryz.func37 rfl Tryz.ntmps37 (by kernel_rfl) (Nat.le_of_ble_eq_true rfl) ?_)
  refine w_seq (w_block (?_))
  refine w_loop (SV × Nat × List Nat) (fun y => y.2.2 ++ uv y.2.1 = xs ++ uv x ∧ y.2.1 < 18446744073709551616) (fun y => [(0, .pointer (some ⟨b, 0, none⟩)), (1, .int .u64 (y.2.1 : Int))]) (fun y => Vr b [y.1.val] :: Row y.1 eB y.2.2 :: R) (fun y => y.2.1) ((s, x, xs)) ?_ ?_ ?_ ?_
  · (try dsimp only)
    exact ⟨rfl, hx⟩
  · repeat (first | exact Sub.nil | refine Sub.cons rfl ?_)
  · (try dsimp only)
    (repeat (first | exact Ka | refine Kb ?_ | refine Kc ?_ | refine Kf ?_ | refine Kd ?_ | refine Ke ?_ | refine Kh ?_ | refine Kg rfl ?_ | refine Ki ?_ | refine Kj ?_ | refine Kk ?_ | refine Kl ?_ | refine Km ?_ | refine Kn ?_ | refine Ko ?_))
  · rintro ⟨s, n, zs⟩ ⟨hI, hnb⟩
    (try dsimp only at *)
    have hlen := congrArg List.length hI
    have hpos := uv_pos n
    simp only [List.length_append] at hlen
    refine w_seq (w_seq (w_region (?_)))
    refine o_ev (ev_move rfl) rfl ?_
    refine o_ev (ev_geq rfl rfl) rfl ?_
    refine o_nil (sq_n (?_))
    refine w_if rfl (fun h1 => ?_) (fun h1 => ?_)
    · skip
      try simp only [Za, Zb, Zc, Zd, Ze, Zf, Zg, Zh] at h1
      skip
      refine w_skip (sq_n (w_block (w_seq (w_region (?_)))))
      refine o_ev (ev_move rfl) rfl ?_
      refine o_ev (ev_move rfl) rfl ?_
      refine o_ev (ev_nilCheck rfl) rfl ?_
      refine o_ev (ev_fieldAddr rfl) rfl ?_
      refine o_ev (ev_load rfl) rfl ?_
      refine o_ev (ev_move rfl) rfl ?_
      refine o_ev ((by first | exact ev_convL 256 rfl rfl rfl _ rfl (by omega) | exact ev_convM 256 rfl rfl rfl _ rfl)) rfl ?_
      refine o_ev (ev_orM 256 rfl rfl rfl rfl _ 128 rfl rfl (by first | decide | omega) (by first | decide | omega)) rfl ?_
      refine o_st (st_build1 eB rfl rfl) rfl ?_
      rintro _ _ ⟨s1, rfl, rfl⟩
      refine o_st (st_append rfl rfl rfl rfl (by first | omega | (simp only [List.length_append, List.length_cons, List.length_nil]; omega) | (simp; omega)) (by first | omega | (simp only [List.length_append, List.length_cons, List.length_nil]; omega) | (simp; omega))) rfl ?_
      rintro _ _ ⟨s2, rfl, rfl⟩
      refine o_ev (ev_nilCheck rfl) rfl ?_
      refine o_ev (ev_fieldAddr rfl) rfl ?_
      refine o_st (st_store rfl rfl rfl) rfl ?_
      rintro _ _ ⟨rfl, rfl⟩
      refine o_nil (sq_n (w_region (?_)))
      refine o_ev (ev_move rfl) rfl ?_
      refine o_ev (ev_shru rfl rfl _ 7 rfl rfl (by first | decide | (show _ ≤ 64; omega))) rfl ?_
      refine o_ev (ev_assign rfl) rfl ?_
      refine o_nil (bk_n (?_))
      skip
      refine lq_n ((s2, n / 2 ^ 7, zs ++ [n % 256 ||| 128])) ?_ ?_ ?_ ?_
      · (try dsimp only)
        refine ⟨?_, by omega⟩
        rw [← hI, or128, uv_big (n := n) (by omega)]
        simp
      · (try dsimp only)
        omega
      · repeat (first | exact Sub.nil | refine Sub.cons rfl ?_)
      · (try dsimp only)
        (repeat (first | exact Ka | refine Kb ?_ | refine Kc ?_ | refine Kf ?_ | refine Kd ?_ | refine Ke ?_ | refine Kh ?_ | refine Kg rfl ?_ | refine Ki ?_ | refine Kj ?_ | refine Kk ?_ | refine Kl ?_ | refine Km ?_ | refine Kn ?_ | refine Ko ?_))
    · skip
      try simp only [Za, Zb, Zc, Zd, Ze, Zf, Zg, Zh] at h1
      have e : zs ++ [n] = xs ++ uv x := by rw [← hI, uv_small (by omega)]
      refine w_exit (sq_e (lq_e (bk_h (sq_n (w_region (?_))))))
      refine o_ev (ev_move rfl) rfl ?_
      refine o_ev (ev_move rfl) rfl ?_
      refine o_ev (ev_nilCheck rfl) rfl ?_
      refine o_ev (ev_fieldAddr rfl) rfl ?_
      refine o_ev (ev_load rfl) rfl ?_
      refine o_ev (ev_move rfl) rfl ?_
      refine o_ev ((by first | exact ev_convL 256 rfl rfl rfl _ rfl (by omega) | exact ev_convM 256 rfl rfl rfl _ rfl)) rfl ?_
      refine o_st (st_build1 eB rfl rfl) rfl ?_
      rintro _ _ ⟨s3, rfl, rfl⟩
      refine o_st (st_append rfl rfl rfl rfl (by first | omega | (simp only [List.length_append, List.length_cons, List.length_nil]; omega) | (simp; omega)) (by first | omega | (simp only [List.length_append, List.length_cons, List.length_nil]; omega) | (simp; omega))) rfl ?_
      rintro _ _ ⟨s4, rfl, rfl⟩
      refine o_ev (ev_nilCheck rfl) rfl ?_
      refine o_ev (ev_fieldAddr rfl) rfl ?_
      refine o_st (st_store rfl rfl rfl) rfl ?_
      rintro _ _ ⟨rfl, rfl⟩
      refine o_nil (?_)
      refine res_intro (vs := []) Tryz.results37 (.inl rfl) (.nil) ?_
      exact ⟨_, by rw [e]; (repeat (first | exact Ka | refine Kb ?_ | refine Kc ?_ | refine Kf ?_ | refine Kd ?_ | refine Ke ?_ | refine Kh ?_ | refine Kg rfl ?_ | refine Ki ?_ | refine Kj ?_ | refine Kk ?_ | refine Kl ?_ | refine Km ?_ | refine Kn ?_ | refine Ko ?_)), rfl, rfl⟩
end Go.Sx
namespace Go.Sx
open Go Go.Proofs
set_option maxRecDepth 100000
set_option linter.unusedSimpArgs false
set_option linter.unusedVariables false

/-- Four bytes, the lowest first. -/
def w32 (x : Nat) : List Nat := [x % 256, x / 256 % 256, x / 65536 % 256, x / 16777216 % 256]
theorem w32_get (x i : Nat) (hi : i < 4) : (w32 x)[i]? = some (x / 2 ^ (8 * i) % 256) := by
  match i, hi with
  | 0, _ => simp [w32]
  | 1, _ => simp [w32]
  | 2, _ => simp [w32]
  | 3, _ => simp [w32]
theorem take_succ_get {α : Type} {l : List α} {i : Nat} {x : α} (h : l[i]? = some x) : l.take (i + 1) = l.take i ++ [x] := by
  rw [List.take_add_one, h]; rfl

theorem wWord32 {G : Base} {H R : Heap} {b : Nat} {xs : List Nat} [hr : Rem H Wr b xs R] (x : Nat) (hn : xs.length ≤ 1000000000000) : SC G Tryz.prog 78 [.pointer (some ⟨b, 0, none⟩), .int .u32 (x : Int)] H (fun v H' => v = .tuple #[] ∧ H' = Wr b (xs ++ w32 x) :: R) := by
  refine sc_wr hr fun s => ?_
  refine SC.out (sc_walk Tryz.func78 rfl Tryz.ntmps78 (by kernel_rfl) (Nat.le_of_ble_eq_true rfl) ?_)
  refine w_seq (w_region (?_))
  refine o_ev (ev_move rfl) rfl ?_
  refine o_nil (sq_n (w_block (?_)))
  refine w_loop (SV × Nat × List Nat) (fun y => y.2.2 = xs ++ (w32 x).take y.2.1 ∧ y.2.1 ≤ 4) (fun y => [(0, .pointer (some ⟨b, 0, none⟩)), (1, .int .u32 (x : Int)), (5, .int .i64 ((y.2.1 : Nat) : Int))]) (fun y => Vr b [y.1.val] :: Row y.1 eB y.2.2 :: R) (fun y => 4 - y.2.1) ((s, 0, xs)) ?_ ?_ ?_ ?_
  · (try dsimp only)
    exact ⟨by simp, Nat.zero_le _⟩
  · repeat (first | exact Sub.nil | refine Sub.cons rfl ?_)
  · (try dsimp only)
    (repeat (first | exact Ka | refine Kb ?_ | refine Kc ?_ | refine Kf ?_ | refine Kd ?_ | refine Ke ?_ | refine Kh ?_ | refine Kg rfl ?_ | refine Ki ?_ | refine Kj ?_ | refine Kk ?_ | refine Kl ?_ | refine Km ?_ | refine Kn ?_ | refine Ko ?_))
  · rintro ⟨s, i, zs⟩ ⟨hI, hi⟩
    (try dsimp only at *)
    have hlen := congrArg List.length hI
    simp only [List.length_append, List.length_take] at hlen
    refine w_seq (w_region (?_))
    refine o_ev (ev_lss rfl rfl) rfl ?_
    refine o_nil (sq_n (w_seq (?_)))
    refine w_if rfl (fun h1 => ?_) (fun h1 => ?_)
    · skip
      try simp only [Za, Zb, Zc, Zd, Ze, Zf, Zg, Zh] at h1
      refine w_skip (sq_n (w_seq (w_block (w_seq (w_region (?_))))))
      refine o_ev (ev_move rfl) rfl ?_
      refine o_ev (ev_assign rfl) rfl ?_
      refine o_nil (sq_n (?_))
      refine w_draw Tryz_mixed (fun i => [10, 11, 14].contains i) (fun k H => (k = 4 → HasV H b [s.val])) ?_
      refine an_first 0 rfl rfl (by kernel_rfl) rfl (Qv.of_ev (fun H hH => ev_move rfl)) ?_
      refine an_first 1 rfl rfl (by kernel_rfl) rfl (Qv.of_ev (fun H hH => ev_move rfl)) ?_
      refine an_first 2 rfl rfl (by kernel_rfl) rfl (Qv.of_ev (fun H hH => ev_nilCheck rfl)) ?_
      refine an_first 3 rfl rfl (by kernel_rfl) rfl (Qv.of_ev (fun H hH => ev_fieldAddr rfl)) ?_
      refine an_first 4 rfl rfl (by kernel_rfl) rfl (Qv.of_ev (fun H hH => by have hN := hH rfl; exact ev_load rfl)) ?_
      refine an_first 5 rfl rfl (by kernel_rfl) rfl (Qv.of_ev (fun H hH => ev_move rfl)) ?_
      refine an_first 6 rfl rfl (by kernel_rfl) rfl (Qv.of_ev (fun H hH => ev_move rfl)) ?_
      refine an_first 7 rfl rfl (by kernel_rfl) rfl (Qv.of_ev (fun H hH => ev_mul rfl rfl (by omega))) ?_
      refine an_first 8 rfl rfl (by kernel_rfl) rfl (Qv.of_ev (fun H hH => ev_shru rfl rfl x (8 * i) rfl (by omega) (by show 8 * i ≤ 32; omega))) ?_
      refine an_first 9 rfl rfl (by kernel_rfl) rfl (Qv.of_ev (fun H hH => (by first | exact ev_convL 256 rfl rfl rfl _ rfl (by omega) | exact ev_convM 256 rfl rfl rfl _ rfl))) ?_
      refine an_step 10 rfl (by kernel_rfl) rfl (fun k hk => fun hi => by subst hi; infer_instance) (st_build1 eB rfl rfl) ?_
      rintro _ _ ⟨s1, rfl, rfl⟩
      refine an_step 11 rfl (by kernel_rfl) rfl (fun k hk => fun hi => by subst hi; infer_instance) (st_append rfl rfl rfl rfl (by first | omega | (simp only [List.length_append, List.length_cons, List.length_nil]; omega) | (simp; omega)) (by first | omega | (simp only [List.length_append, List.length_cons, List.length_nil]; omega) | (simp; omega))) ?_
      rintro _ _ ⟨s2, rfl, rfl⟩
      refine an_first 12 rfl rfl (by kernel_rfl) rfl (Qv.of_ev (fun H hH => ev_nilCheck rfl)) ?_
      refine an_first 13 rfl rfl (by kernel_rfl) rfl (Qv.of_ev (fun H hH => ev_fieldAddr rfl)) ?_
      refine an_step 14 rfl (by kernel_rfl) rfl (fun k hk => fun hi => absurd hk (by subst hi; exact not_live (by kernel_rfl))) (st_store rfl rfl rfl) ?_
      rintro _ _ ⟨rfl, rfl⟩
      refine an_nil (by kernel_rfl) (fun k hk => fun hi => absurd hk (by subst hi; exact not_live (by kernel_rfl))) (bk_n (sq_n (w_region (?_))))
      refine o_ev (ev_add rfl rfl (by omega)) rfl ?_
      refine o_ev (ev_move rfl) rfl ?_
      refine o_nil (?_)
      skip
      refine lq_n ((s2, i + 1, zs ++ [x / 2 ^ (8 * i) % 256])) ?_ ?_ ?_ ?_
      · (try dsimp only)
        refine ⟨?_, by omega⟩
        rw [hI, take_succ_get (w32_get x i (by omega)), List.append_assoc]
      · (try dsimp only)
        omega
      · repeat (first | exact Sub.nil | refine Sub.cons rfl ?_)
      · (try dsimp only)
        (repeat (first | exact Ka | refine Kb ?_ | refine Kc ?_ | refine Kf ?_ | refine Kd ?_ | refine Ke ?_ | refine Kh ?_ | refine Kg rfl ?_ | refine Ki ?_ | refine Kj ?_ | refine Kk ?_ | refine Kl ?_ | refine Km ?_ | refine Kn ?_ | refine Ko ?_))
    · skip
      try simp only [Za, Zb, Zc, Zd, Ze, Zf, Zg, Zh] at h1
      obtain rfl : i = 4 := by omega
      have e : zs = xs ++ w32 x := hI
      refine w_exit (sq_e (lq_e (bk_h (?_))))
      refine res_intro (vs := []) Tryz.results78 (.inl rfl) (.nil) ?_
      exact ⟨_, by rw [e]; (repeat (first | exact Ka | refine Kb ?_ | refine Kc ?_ | refine Kf ?_ | refine Kd ?_ | refine Ke ?_ | refine Kh ?_ | refine Kg rfl ?_ | refine Ki ?_ | refine Kj ?_ | refine Kk ?_ | refine Kl ?_ | refine Km ?_ | refine Kn ?_ | refine Ko ?_)), rfl, rfl⟩

theorem wText {G : Base} {H R : Heap} {b : Nat} {xs : List Nat} [hr : Rem H Wr b xs R] (q : ByteArray) (hn : xs.length ≤ 100000000000) (hq : q.size ≤ 100000000000) : SC G Tryz.prog 72 [.pointer (some ⟨b, 0, none⟩), .string q] H (fun v H' => v = .tuple #[] ∧ H' = Wr b (xs ++ (uv q.size ++ byts q)) :: R) := by
  have hl := uv_len10 (n := q.size) (by omega)
  refine SC.rem (h := hr) ?_
  refine SC.out (sc_walk Tryz.func72 rfl Tryz.ntmps72 (by kernel_rfl) (Nat.le_of_ble_eq_true rfl) ?_)
  refine w_seq (w_region (?_))
  refine o_ev (ev_move rfl) rfl ?_
  refine o_ev (ev_move rfl) rfl ?_
  refine o_ev (ev_len_str1 rfl) rfl ?_
  refine o_ev ((by first | exact ev_convL 18446744073709551616 rfl rfl rfl _ rfl (by omega) | exact ev_convM 18446744073709551616 rfl rfl rfl _ rfl)) rfl ?_
  refine o_st (st_call (vs := [_, _]) rfl (wUvarint q.size (by omega) (by omega))) rfl ?_
  rintro _ _ ⟨rfl, rfl⟩
  refine o_unwr b fun s => ?_
  refine o_nil (sq_n (w_region (?_)))
  refine o_ev (ev_move rfl) rfl ?_
  refine o_ev (ev_move rfl) rfl ?_
  refine o_ev (ev_nilCheck rfl) rfl ?_
  refine o_ev (ev_fieldAddr rfl) rfl ?_
  refine o_ev (ev_load rfl) rfl ?_
  refine o_ev (ev_move rfl) rfl ?_
  refine o_st (st_append_str rfl rfl rfl (by first | omega | (simp only [List.length_append, List.length_cons, List.length_nil]; omega) | (simp; omega)) (by first | omega | (simp only [List.length_append, List.length_cons, List.length_nil]; omega) | (simp; omega))) rfl ?_
  rintro _ _ ⟨s1, rfl, rfl⟩
  refine o_ev (ev_nilCheck rfl) rfl ?_
  refine o_ev (ev_fieldAddr rfl) rfl ?_
  refine o_st (st_store rfl rfl rfl) rfl ?_
  rintro _ _ ⟨rfl, rfl⟩
  refine o_nil (?_)
  refine res_intro (vs := []) Tryz.results72 (.inl rfl) (.nil) ?_
  exact ⟨_, by rw [List.append_assoc]; (repeat (first | exact Ka | refine Kb ?_ | refine Kc ?_ | refine Kf ?_ | refine Kd ?_ | refine Ke ?_ | refine Kh ?_ | refine Kg rfl ?_ | refine Ki ?_ | refine Kj ?_ | refine Kk ?_ | refine Kl ?_ | refine Km ?_ | refine Kn ?_ | refine Ko ?_)), rfl, rfl⟩
end Go.Sx
namespace Go.Sx
open Go Go.Proofs
set_option maxRecDepth 100000
set_option linter.unusedSimpArgs false
set_option linter.unusedVariables false

theorem concat1 {G : Base} {H : Heap} {s p : SV} {xs : List Nat} [Sl H s eB xs] [Sl H p eSV [s]] (hn : xs.length ≤ 1000000000000) : SC G Tryz.prog 74 [p.val] H (fun v H' => ∃ s' : SV, v = s'.val ∧ H' = Row s' eB xs :: H) := by
  refine SC.out (sc_walk Tryz.func74 rfl Tryz.ntmps74 (by kernel_rfl) (Nat.le_of_ble_eq_true rfl) ?_)
  refine w_seq (w_region (?_))
  refine o_ev (ev_assign rfl) rfl ?_
  refine o_nil (sq_n (w_seq (w_region (?_))))
  refine o_ev (ev_assign rfl) rfl ?_
  refine o_nil (sq_n (w_seq (w_seq (w_region (?_)))))
  refine o_ev (ev_move rfl) rfl ?_
  refine o_ev (ev_len1 rfl) rfl ?_
  refine o_ev (ev_move rfl) rfl ?_
  refine o_nil (sq_n (w_block (?_)))
  refine w_loop (Nat × Nat) (fun y => y.1 ≤ 1 ∧ y.2 = y.1 * xs.length) (fun y => [(0, p.val), (3, .int .i64 ((y.2 : Nat) : Int)), (10, p.val), (11, .int .i64 1), (12, .int .i64 ((y.1 : Nat) : Int))]) (fun _ => H) (fun y => 1 - y.1) ((0, 0)) ?_ ?_ ?_ ?_
  · (try dsimp only)
    exact ⟨by omega, by simp⟩
  · repeat (first | exact Sub.nil | refine Sub.cons rfl ?_)
  · (try dsimp only)
    (repeat (first | exact Ka | refine Kb ?_ | refine Kc ?_ | refine Kf ?_ | refine Kd ?_ | refine Ke ?_ | refine Kh ?_ | refine Kg rfl ?_ | refine Ki ?_ | refine Kj ?_ | refine Kk ?_ | refine Kl ?_ | refine Km ?_ | refine Kn ?_ | refine Ko ?_))
  · rintro ⟨i, n⟩ ⟨hi, hn'⟩
    (try dsimp only at *)
    refine w_seq (w_region (?_))
    refine o_ev (ev_lss rfl rfl) rfl ?_
    refine o_nil (sq_n (w_seq (?_)))
    refine w_if rfl (fun h1 => ?_) (fun h1 => ?_)
    · skip
      try simp only [Za, Zb, Zc, Zd, Ze, Zf, Zg, Zh] at h1
      obtain rfl : i = 0 := by omega
      obtain rfl : n = 0 := by omega
      refine w_skip (sq_n (w_seq (w_block (w_seq (w_region (?_))))))
      refine o_ev (ev_indexAddr rfl rfl 0 rfl (by simp)) rfl ?_
      refine o_ev (ev_load_el rfl (by rfl) (by rfl) _ (by first | assumption | rfl | exact List.getElem?_eq_getElem (by omega))) rfl ?_
      refine o_ev (ev_assign rfl) rfl ?_
      refine o_nil (sq_n (w_region (?_)))
      refine o_ev (ev_move rfl) rfl ?_
      refine o_ev (ev_move rfl) rfl ?_
      refine o_ev (ev_len1 rfl) rfl ?_
      refine o_ev (ev_add rfl rfl (by omega)) rfl ?_
      refine o_ev (ev_assign rfl) rfl ?_
      refine o_nil (bk_n (sq_n (w_region (?_))))
      refine o_ev (ev_add rfl rfl (by omega)) rfl ?_
      refine o_ev (ev_move rfl) rfl ?_
      refine o_nil (?_)
      skip
      refine lq_n ((1, 0 + xs.length)) ?_ ?_ ?_ ?_
      · (try dsimp only)
        exact ⟨by omega, by omega⟩
      · (try dsimp only)
        omega
      · repeat (first | exact Sub.nil | refine Sub.cons rfl ?_)
      · (try dsimp only)
        (repeat (first | exact Ka | refine Kb ?_ | refine Kc ?_ | refine Kf ?_ | refine Kd ?_ | refine Ke ?_ | refine Kh ?_ | refine Kg rfl ?_ | refine Ki ?_ | refine Kj ?_ | refine Kk ?_ | refine Kl ?_ | refine Km ?_ | refine Kn ?_ | refine Ko ?_))
    · skip
      try simp only [Za, Zb, Zc, Zd, Ze, Zf, Zg, Zh] at h1
      obtain rfl : i = 1 := by omega
      obtain rfl : n = xs.length := by omega
      refine w_exit (sq_e (lq_e (bk_h (sq_n (w_seq (w_region (?_)))))))
      refine o_ev (ev_move rfl) rfl ?_
      refine o_st (st_make eB 0 rfl rfl _ _ rfl rfl rfl (by omega) (by omega) (by omega)) rfl ?_
      rintro _ _ ⟨s1, rfl, hs1n, hs1c, rfl⟩
      refine o_ev (ev_assign rfl) rfl ?_
      refine o_nil (sq_n (w_seq (w_region (?_))))
      refine o_ev (ev_assign rfl) rfl ?_
      refine o_nil (sq_n (w_seq (w_seq (w_region (?_)))))
      refine o_ev (ev_move rfl) rfl ?_
      refine o_ev (ev_len1 rfl) rfl ?_
      refine o_ev (ev_move rfl) rfl ?_
      refine o_nil (sq_n (w_block (?_)))
      refine w_loop (Nat × Nat × List Nat) (fun y => y.1 ≤ 1 ∧ y.2.1 = y.1 * xs.length ∧ y.2.2 = if y.1 = 0 then List.replicate xs.length 0 else xs) (fun y => [(6, s1.val), (7, .int .i64 ((y.2.1 : Nat) : Int)), (23, p.val), (24, .int .i64 1), (25, .int .i64 ((y.1 : Nat) : Int))]) (fun y => Row s1 eB y.2.2 :: H) (fun y => 1 - y.1) ((0, 0, List.replicate xs.length 0)) ?_ ?_ ?_ ?_
      · (try dsimp only)
        exact ⟨by omega, by simp, rfl⟩
      · repeat (first | exact Sub.nil | refine Sub.cons rfl ?_)
      · (try dsimp only)
        (repeat (first | exact Ka | refine Kb ?_ | refine Kc ?_ | refine Kf ?_ | refine Kd ?_ | refine Ke ?_ | refine Kh ?_ | refine Kg rfl ?_ | refine Ki ?_ | refine Kj ?_ | refine Kk ?_ | refine Kl ?_ | refine Km ?_ | refine Kn ?_ | refine Ko ?_))
      · rintro ⟨i, n, zs⟩ ⟨hi, hn', hz⟩
        (try dsimp only at *)
        refine w_seq (w_region (?_))
        refine o_ev (ev_lss rfl rfl) rfl ?_
        refine o_nil (sq_n (w_seq (?_)))
        refine w_if rfl (fun h2 => ?_) (fun h2 => ?_)
        · skip
          try simp only [Za, Zb, Zc, Zd, Ze, Zf, Zg, Zh] at h2
          obtain rfl : i = 0 := by omega
          obtain rfl : n = 0 := by omega
          obtain rfl : zs = List.replicate xs.length 0 := hz
          refine w_skip (sq_n (w_seq (w_block (w_seq (w_region (?_))))))
          refine o_ev (ev_indexAddr rfl rfl 0 rfl (by simp)) rfl ?_
          refine o_ev (ev_load_el rfl (by rfl) (by rfl) _ (by first | assumption | rfl | exact List.getElem?_eq_getElem (by omega))) rfl ?_
          refine o_ev (ev_assign rfl) rfl ?_
          refine o_nil (sq_n (w_region (?_)))
          refine o_ev (ev_move rfl) rfl ?_
          refine o_ev (ev_move rfl) rfl ?_
          refine o_ev (ev_move rfl) rfl ?_
          refine o_ev (ev_slice1 rfl (by rfl) 0 xs.length ⟨_, _, rfl, rfl⟩ (by simp) (by omega) (by simp)) rfl ?_
          refine o_ev (ev_move rfl) rfl ?_
          refine o_st (st_copy (a := 0) (b := xs.length) rfl rfl (by rfl) (by omega) (by simp) xs.length (by simp)) rfl ?_
          rintro _ _ ⟨rfl, rfl⟩
          refine o_ev (ev_add rfl rfl (by omega)) rfl ?_
          refine o_ev (ev_assign rfl) rfl ?_
          refine o_nil (bk_n (sq_n (w_region (?_))))
          refine o_ev (ev_add rfl rfl (by omega)) rfl ?_
          refine o_ev (ev_move rfl) rfl ?_
          refine o_nil (?_)
          skip
          refine lq_n ((1, 0 + xs.length, xs)) ?_ ?_ ?_ ?_
          · (try dsimp only)
            exact ⟨by omega, by omega, rfl⟩
          · (try dsimp only)
            omega
          · repeat (first | exact Sub.nil | refine Sub.cons rfl ?_)
          · (try dsimp only)
            have e : List.take 0 (List.replicate xs.length 0) ++ List.take xs.length xs ++ List.drop (0 + xs.length) (List.replicate xs.length 0) = xs := by simp
            rw [e]
            (repeat (first | exact Ka | refine Kb ?_ | refine Kc ?_ | refine Kf ?_ | refine Kd ?_ | refine Ke ?_ | refine Kh ?_ | refine Kg rfl ?_ | refine Ki ?_ | refine Kj ?_ | refine Kk ?_ | refine Kl ?_ | refine Km ?_ | refine Kn ?_ | refine Ko ?_))
        · skip
          try simp only [Za, Zb, Zc, Zd, Ze, Zf, Zg, Zh] at h2
          obtain rfl : i = 1 := by omega
          obtain rfl : zs = xs := hz
          refine w_exit (sq_e (lq_e (bk_h (sq_n (w_seq (w_region (?_)))))))
          refine o_ev (ev_move rfl) rfl ?_
          refine o_ev (ev_assign rfl) rfl ?_
          refine o_nil (sq_n (w_ret (?_)))
          refine res_intro (vs := [_]) Tryz.results74 (.inr rfl) (.cons (.tmp rfl) (.nil)) ?_
          exact ⟨_, by (repeat (first | exact Ka | refine Kb ?_ | refine Kc ?_ | refine Kf ?_ | refine Kd ?_ | refine Ke ?_ | refine Kh ?_ | refine Kg rfl ?_ | refine Ki ?_ | refine Kj ?_ | refine Kk ?_ | refine Kl ?_ | refine Km ?_ | refine Kn ?_ | refine Ko ?_)), s1, rfl, rfl⟩

theorem wBytes {G : Base} {H R : Heap} {b : Nat} {xs : List Nat} [hr : Rem H Wr b xs R] (hn : xs.length ≤ 1000000000000) : SC G Tryz.prog 38 [.pointer (some ⟨b, 0, none⟩)] H (fun v H' => ∃ s' : SV, v = s'.val ∧ H' = Row s' eB xs :: Wr b xs :: R) := by
  refine sc_wr hr fun s => ?_
  refine SC.out (sc_walk Tryz.func38 rfl Tryz.ntmps38 (by kernel_rfl) (Nat.le_of_ble_eq_true rfl) ?_)
  refine w_seq (w_region (?_))
  refine o_ev (ev_assign rfl) rfl ?_
  refine o_nil (sq_n (w_seq (w_region (?_))))
  refine o_ev (ev_move rfl) rfl ?_
  refine o_ev (ev_nilCheck rfl) rfl ?_
  refine o_ev (ev_fieldAddr rfl) rfl ?_
  refine o_ev (ev_load rfl) rfl ?_
  refine o_st (st_build1 eSV rfl rfl) rfl ?_
  rintro _ _ ⟨s1, rfl, rfl⟩
  refine o_st (st_call (vs := [_]) rfl (concat1 hn)) rfl ?_
  rintro _ _ ⟨s2, rfl, rfl⟩
  refine o_ev (ev_assign rfl) rfl ?_
  refine o_nil (sq_n (w_ret (?_)))
  refine res_intro (vs := [_]) Tryz.results38 (.inr rfl) (.cons (.tmp rfl) (.nil)) ?_
  exact ⟨_, by (repeat (first | exact Ka | refine Kb ?_ | refine Kc ?_ | refine Kf ?_ | refine Kd ?_ | refine Ke ?_ | refine Kh ?_ | refine Kg rfl ?_ | refine Ki ?_ | refine Kj ?_ | refine Kk ?_ | refine Kl ?_ | refine Km ?_ | refine Kn ?_ | refine Ko ?_)), s2, rfl, rfl⟩

theorem newReader {G : Base} {H : Heap} {s : SV} {xs : List Nat} [Sl H s eB xs] (hn : xs.length ≤ 1000000000000) : SC G Tryz.prog 45 [s.val] H (fun v H' => ∃ b, v = .pointer (some ⟨b, 0, none⟩) ∧ H' = Rd b (xs, 0) :: H) := by
  refine SC.out (sc_walk Tryz.func45 rfl Tryz.ntmps45 (by kernel_rfl) (Nat.le_of_ble_eq_true rfl) ?_)
  refine w_seq (w_region (?_))
  refine o_ev (ev_assign rfl) rfl ?_
  refine o_nil (sq_n (w_seq (w_region (?_))))
  refine o_ev (ev_move rfl) rfl ?_
  refine o_ev (ev_len1 rfl) rfl ?_
  refine o_ev (ev_build (vs := [(1, _)]) rfl) rfl ?_
  refine o_ev (ev_move rfl) rfl ?_
  refine o_st (st_build1 eSV rfl rfl) rfl ?_
  rintro _ _ ⟨s1, rfl, rfl⟩
  refine o_st (st_call (vs := [_]) rfl (concat1 hn)) rfl ?_
  rintro _ _ ⟨s2, rfl, rfl⟩
  refine o_ev (ev_build (vs := [(0, _), (1, _)]) rfl) rfl ?_
  refine o_st (st_box rfl) rfl ?_
  rintro _ _ ⟨b1, rfl, rfl⟩
  refine o_ev (ev_assign rfl) rfl ?_
  refine o_nil (sq_n (w_ret (?_)))
  refine res_intro (vs := [_]) Tryz.results45 (.inr rfl) (.cons (.tmp rfl) (.nil)) ?_
  exact ⟨_, by (repeat (first | exact Ka | refine Kb ?_ | refine Kc ?_ | refine Kf ?_ | refine Kd ?_ | refine Ke ?_ | refine Kh ?_ | refine Kg rfl ?_ | refine Ki ?_ | refine Kj ?_ | refine Kk ?_ | refine Kl ?_ | refine Km ?_ | refine Kn ?_ | refine Ko ?_)), _, rfl, rfl⟩
end Go.Sx
namespace Go.Sx
open Go Go.Proofs
set_option maxRecDepth 100000
set_option linter.unusedSimpArgs false
set_option linter.unusedVariables false

/-! ## Rising lists -/
def below (l : List Int) : Bool := l.any fun x => decide (x < 0)
def rise : List Int → Bool
  | x :: y :: r => decide (x < y) && rise (y :: r)
  | _ => true
def riseB (last : Int) : List Int → List Nat
  | [] => []
  | x :: xs => uv (x - last - 1).toNat ++ riseB x xs
theorem rise_iff : ∀ l : List Int, rise l = true ↔ ∀ (i : Nat) (x y : Int), l[i]? = some x → l[i + 1]? = some y → x < y
  | [] => by simp [rise]
  | [x] => by simp [rise]
  | x :: y :: r => by
    simp only [rise, Bool.and_eq_true, decide_eq_true_eq, rise_iff (y :: r)]
    constructor
    · rintro ⟨h1, h2⟩ i a b ha hb
      cases i with
      | zero => simp at ha hb; subst ha; subst hb; exact h1
      | succ i => simp only [List.getElem?_cons_succ] at ha hb; exact h2 i a b ha (by simpa using hb)
    · intro h
      exact ⟨h 0 x y (by simp) (by simp), fun i a b ha hb => h (i + 1) a b (by simpa using ha) (by simpa using hb)⟩
theorem below_iff (l : List Int) : below l = false ↔ ∀ (i : Nat) (x : Int), l[i]? = some x → 0 ≤ x := by
  simp only [below, List.any_eq_false, decide_eq_true_eq, Int.not_lt]
  exact ⟨fun h i x hx => h x (List.mem_of_getElem? hx), fun h x hx => let ⟨i, hi⟩ := List.mem_iff_getElem?.1 hx; h i x hi⟩
theorem below_true {l : List Int} {i : Nat} {x : Int} (h : l[i]? = some x) (hx : x < 0) : below l = true := by
  simp only [below, List.any_eq_true, decide_eq_true_eq]
  exact ⟨x, List.mem_of_getElem? h, hx⟩
theorem drop_get {α : Type} {l : List α} {i : Nat} {x : α} (h : l[i]? = some x) : l.drop i = x :: l.drop (i + 1) := by
  have hlt := (List.getElem?_eq_some_iff.1 h).1
  rw [List.drop_eq_getElem_cons hlt]
  congr 1
  exact (List.getElem?_eq_some_iff.1 h).2

theorem riseB_len_aux : ∀ (l : List Int) (last : Int), -1 ≤ last → (∀ x ∈ l, x ≤ 9223372036854775807) → (riseB last l).length ≤ 10 * l.length ∨ ∃ x ∈ l, x < 0
  | [], _, _, _ => by simp [riseB]
  | x :: l, last, h, hl => by
    by_cases hx : x < 0
    · exact .inr ⟨x, by simp, hx⟩
    · have h1 := hl x (by simp)
      rcases riseB_len_aux l x (by omega) (fun y hy => hl y (by simp [hy])) with h2 | ⟨y, hy, h3⟩
      · left
        have := uv_len10 (n := (x - last - 1).toNat) (by omega)
        rw [riseB]
        simp only [List.length_append, List.length_cons]
        omega
      · exact .inr ⟨y, by simp [hy], h3⟩
theorem riseB_len {l : List Int} (hb : below l = false) (hl : ∀ x ∈ l, x ≤ 9223372036854775807) : (riseB (-1) l).length ≤ 10 * l.length := by
  rcases riseB_len_aux l (-1) (by omega) hl with h | ⟨x, hx, h⟩
  · exact h
  · obtain ⟨i, hi⟩ := List.mem_iff_getElem?.1 hx
    rw [below_true hi h] at hb; cases hb
theorem anyBelow {G : Base} {H : Heap} {s : SV} {l : List Int} [Sl H s eI l] (hn : l.length ≤ 1000000000000) : SC G Tryz.prog 116 [s.val] H (fun v H' => v = .bool (below l) ∧ H' = H) := by
  refine SC.out (sc_walk Tryz.func116 rfl Tryz.ntmps116 (by kernel_rfl) (Nat.le_of_ble_eq_true rfl) ?_)
  refine w_seq (w_region (?_))
  refine o_ev (ev_assign rfl) rfl ?_
  refine o_nil (sq_n (w_seq (w_seq (w_region (?_)))))
  refine o_ev (ev_move rfl) rfl ?_
  refine o_ev (ev_len1 rfl) rfl ?_
  refine o_ev (ev_move rfl) rfl ?_
  refine o_nil (sq_n (w_block (?_)))
  refine w_loop (Nat) (fun i => i ≤ l.length ∧ ∀ j x, j < i → l[j]? = some x → 0 ≤ x) (fun i => [(5, s.val), (6, .int .i64 ((l.length : Nat) : Int)), (7, .int .i64 ((i : Nat) : Int))]) (fun _ => H) (fun i => l.length - i) (0) ?_ ?_ ?_ ?_
  · (try dsimp only)
    exact ⟨Nat.zero_le _, fun j x h => absurd h (Nat.not_lt_zero _)⟩
  · repeat (first | exact Sub.nil | refine Sub.cons rfl ?_)
  · (try dsimp only)
    (repeat (first | exact Ka | refine Kb ?_ | refine Kc ?_ | refine Kf ?_ | refine Kd ?_ | refine Ke ?_ | refine Kh ?_ | refine Kg rfl ?_ | refine Ki ?_ | refine Kj ?_ | refine Kk ?_ | refine Kl ?_ | refine Km ?_ | refine Kn ?_ | refine Ko ?_))
  · rintro i ⟨hi, hall⟩
    (try dsimp only at *)
    refine w_seq (w_region (?_))
    refine o_ev (ev_lss rfl rfl) rfl ?_
    refine o_nil (sq_n (w_seq (?_)))
    refine w_if rfl (fun h1 => ?_) (fun h1 => ?_)
    · skip
      try simp only [Za, Zb, Zc, Zd, Ze, Zf, Zg, Zh] at h1
      obtain ⟨x, hx⟩ : ∃ x, l[i]? = some x := ⟨_, List.getElem?_eq_getElem (by omega)⟩
      refine w_skip (sq_n (w_seq (w_block (w_seq (w_region (?_))))))
      refine o_ev (ev_indexAddr rfl rfl _ rfl (by omega)) rfl ?_
      refine o_ev (ev_load_el rfl (by rfl) (by rfl) _ (by first | assumption | rfl | exact List.getElem?_eq_getElem (by omega))) rfl ?_
      refine o_ev (ev_assign rfl) rfl ?_
      refine o_nil (sq_n (w_seq (w_region (?_))))
      refine o_ev (ev_move rfl) rfl ?_
      refine o_ev (ev_lss rfl rfl) rfl ?_
      refine o_nil (sq_n (?_))
      refine w_if rfl (fun h2 => ?_) (fun h2 => ?_)
      · skip
        try simp only [Za, Zb, Zc, Zd, Ze, Zf, Zg, Zh] at h2
        refine w_seq (w_region (?_))
        refine o_ev (ev_assign rfl) rfl ?_
        refine o_nil (sq_n (w_ret (bk_r (sq_r (lq_r (bk_r (sq_r (?_))))))))
        refine res_intro (vs := [_]) Tryz.results116 (.inr rfl) (.cons (.tmp rfl) (.nil)) ?_
        exact ⟨_, Ka, by rw [below_true hx h2]; rfl, rfl⟩
      · skip
        try simp only [Za, Zb, Zc, Zd, Ze, Zf, Zg, Zh] at h2
        refine w_skip (bk_n (sq_n (w_region (?_))))
        refine o_ev (ev_add rfl rfl (by omega)) rfl ?_
        refine o_ev (ev_move rfl) rfl ?_
        refine o_nil (?_)
        skip
        refine lq_n (i + 1) ?_ ?_ ?_ ?_
        · (try dsimp only)
          refine ⟨by omega, fun j y hj hy => ?_⟩
          rcases Nat.lt_or_eq_of_le (Nat.le_of_lt_succ hj) with h | rfl
          · exact hall j y h hy
          · rw [hx] at hy; cases hy; omega
        · (try dsimp only)
          omega
        · repeat (first | exact Sub.nil | refine Sub.cons rfl ?_)
        · (try dsimp only)
          (repeat (first | exact Ka | refine Kb ?_ | refine Kc ?_ | refine Kf ?_ | refine Kd ?_ | refine Ke ?_ | refine Kh ?_ | refine Kg rfl ?_ | refine Ki ?_ | refine Kj ?_ | refine Kk ?_ | refine Kl ?_ | refine Km ?_ | refine Kn ?_ | refine Ko ?_))
    · skip
      try simp only [Za, Zb, Zc, Zd, Ze, Zf, Zg, Zh] at h1
      refine w_exit (sq_e (lq_e (bk_h (sq_n (w_seq (w_region (?_)))))))
      refine o_ev (ev_assign rfl) rfl ?_
      refine o_nil (sq_n (w_ret (?_)))
      refine res_intro (vs := [_]) Tryz.results116 (.inr rfl) (.cons (.tmp rfl) (.nil)) ?_
      exact ⟨_, Ka, by rw [(below_iff l).2 fun j x hx => hall j x (by have := (List.getElem?_eq_some_iff.1 hx).1; omega) hx]; rfl, rfl⟩

theorem wRising {G : Base} {H R : Heap} {b : Nat} {s : SV} {xs : List Nat} {l : List Int} [hg : Glb G R] [hr : Rem H Wr b xs R] [Sl R s eI l] (hn : xs.length ≤ 100000000000) (hm : l.length ≤ 10000000000) (hl : ∀ x ∈ l, x ≤ 9223372036854775807) : SC G Tryz.prog 75 [.pointer (some ⟨b, 0, none⟩), s.val] H (fun v H' =>
    (below l = true ∧ v = G.err 1 ∧ H' = Wr b xs :: R) ∨ (below l = false ∧ rise l = false ∧ v = G.err 5 ∧ H' = Wr b xs :: R) ∨ (below l = false ∧ rise l = true ∧ v = .nilIface ∧ H' = Wr b (xs ++ (uv l.length ++ riseB (-1) l)) :: R)) := by
  refine SC.rem (h := hr) ?_
  refine SC.out (sc_walk Tryz.func75 rfl Tryz.ntmps75 (by kernel_rfl) (Nat.le_of_ble_eq_true rfl) ?_)
  refine w_seq (w_region (?_))
  refine o_ev (ev_assign rfl) rfl ?_
  refine o_nil (sq_n (w_seq (w_seq (w_region (?_)))))
  refine o_ev (ev_move rfl) rfl ?_
  refine o_st (st_call (vs := [_]) rfl (anyBelow (by omega))) rfl ?_
  rintro _ _ ⟨rfl, rfl⟩
  refine o_nil (sq_n (?_))
  refine w_if rfl (fun h1 => ?_) (fun h1 => ?_)
  · skip
    try simp only [Za, Zb, Zc, Zd, Ze, Zf, Zg, Zh] at h1
    refine w_seq (w_region (?_))
    refine o_ev (ev_load rfl) rfl ?_
    refine o_ev (ev_assign rfl) rfl ?_
    refine o_nil (sq_n (w_ret (sq_r (?_))))
    refine res_intro (vs := [_]) Tryz.results75 (.inr rfl) (.cons (.tmp rfl) (.nil)) ?_
    exact ⟨_, Ka, .inl ⟨h1, rfl, rfl⟩⟩
  · skip
    try simp only [Za, Zb, Zc, Zd, Ze, Zf, Zg, Zh] at h1
    have hb := (below_iff l).1 h1
    refine w_skip (sq_n (w_seq (w_seq (w_region (?_)))))
    refine o_ev (ev_assign rfl) rfl ?_
    refine o_nil (sq_n (w_block (?_)))
    refine w_loop (Nat) (fun i => 1 ≤ i ∧ (1 < i → i ≤ l.length) ∧ ∀ j x y, j + 1 < i → l[j]? = some x → l[j + 1]? = some y → x < y) (fun i => [(0, .pointer (some ⟨b, 0, none⟩)), (1, s.val), (5, .int .i64 ((i : Nat) : Int))]) (fun _ => Wr b xs :: R) (fun i => l.length - i) (1) ?_ ?_ ?_ ?_
    · (try dsimp only)
      exact ⟨Nat.le_refl _, fun h => absurd h (Nat.lt_irrefl _), fun j x y h => by omega⟩
    · repeat (first | exact Sub.nil | refine Sub.cons rfl ?_)
    · (try dsimp only)
      (repeat (first | exact Ka | refine Kb ?_ | refine Kc ?_ | refine Kf ?_ | refine Kd ?_ | refine Ke ?_ | refine Kh ?_ | refine Kg rfl ?_ | refine Ki ?_ | refine Kj ?_ | refine Kk ?_ | refine Kl ?_ | refine Km ?_ | refine Kn ?_ | refine Ko ?_))
    · rintro i ⟨hi1, hi2, hall⟩
      (try dsimp only at *)
      refine w_seq (w_seq (w_region (?_)))
      refine o_ev (ev_move rfl) rfl ?_
      refine o_ev (ev_move rfl) rfl ?_
      refine o_ev (ev_len1 rfl) rfl ?_
      refine o_ev (ev_lss rfl rfl) rfl ?_
      refine o_nil (sq_n (?_))
      refine w_if rfl (fun h2 => ?_) (fun h2 => ?_)
      · skip
        try simp only [Za, Zb, Zc, Zd, Ze, Zf, Zg, Zh] at h2
        obtain ⟨x, hx⟩ : ∃ x, l[i - 1]? = some x := ⟨_, List.getElem?_eq_getElem (by omega)⟩
        obtain ⟨y, hy⟩ : ∃ y, l[i]? = some y := ⟨_, List.getElem?_eq_getElem (by omega)⟩
        refine w_skip (sq_n (w_seq (w_block (w_seq (?_)))))
        refine w_still Tryz_mixed ?_
        refine an_first 0 rfl rfl (by kernel_rfl) rfl (qv_at (ev_move rfl)) ?_
        refine an_first 1 rfl rfl (by kernel_rfl) rfl (qv_at (ev_move rfl)) ?_
        refine an_first 2 rfl rfl (by kernel_rfl) rfl (qv_at (ev_indexAddr rfl rfl _ rfl (by omega))) ?_
        refine an_first 3 rfl rfl (by kernel_rfl) rfl (qv_at (ev_load_el rfl (by rfl) (by rfl) _ (by first | assumption | rfl | exact List.getElem?_eq_getElem (by omega)))) ?_
        refine an_first 4 rfl rfl (by kernel_rfl) rfl (qv_at (ev_move rfl)) ?_
        refine an_first 5 rfl rfl (by kernel_rfl) rfl (qv_at (ev_move rfl)) ?_
        refine an_first 6 rfl rfl (by kernel_rfl) rfl (qv_at (ev_sub rfl rfl (by omega))) ?_
        refine an_first 7 rfl rfl (by kernel_rfl) rfl (qv_at (ev_indexAddr rfl rfl (i - 1) (by omega) (by omega))) ?_
        refine an_first 8 rfl rfl (by kernel_rfl) rfl (qv_at (ev_load_el rfl (by rfl) (by rfl) _ (by first | assumption | rfl | exact List.getElem?_eq_getElem (by omega)))) ?_
        refine an_first 9 rfl rfl (by kernel_rfl) rfl (qv_at (ev_leq rfl rfl)) ?_
        refine an_nil (by kernel_rfl) (fun _ _ => rfl) (sq_n (?_))
        refine w_if rfl (fun h3 => ?_) (fun h3 => ?_)
        · skip
          try simp only [Za, Zb, Zc, Zd, Ze, Zf, Zg, Zh] at h3
          refine w_seq (w_region (?_))
          refine o_ev (ev_load rfl) rfl ?_
          refine o_ev (ev_assign rfl) rfl ?_
          refine o_nil (sq_n (w_ret (bk_r (sq_r (lq_r (bk_r (sq_r (?_))))))))
          refine res_intro (vs := [_]) Tryz.results75 (.inr rfl) (.cons (.tmp rfl) (.nil)) ?_
          refine ⟨Wr b xs :: R, by exact Ka, .inr (.inl ⟨h1, ?_, rfl, rfl⟩)⟩
          rw [← Bool.not_eq_true, rise_iff]
          intro hall
          have := hall (i - 1) x y hx (by rw [Nat.sub_add_cancel hi1]; exact hy)
          omega
        · skip
          try simp only [Za, Zb, Zc, Zd, Ze, Zf, Zg, Zh] at h3
          refine w_skip (bk_n (sq_n (w_region (?_))))
          refine o_ev (ev_move rfl) rfl ?_
          refine o_ev (ev_add rfl rfl (by omega)) rfl ?_
          refine o_ev (ev_assign rfl) rfl ?_
          refine o_nil (?_)
          skip
          refine lq_n (i + 1) ?_ ?_ ?_ ?_
          · (try dsimp only)
            refine ⟨by omega, fun _ => by omega, fun j a c hj ha hc => ?_⟩
            rcases Nat.lt_or_eq_of_le (Nat.le_of_lt_succ hj) with h | h
            · exact hall j a c h ha hc
            · obtain rfl : j = i - 1 := by omega
              rw [hx] at ha
              rw [Nat.sub_add_cancel hi1, hy] at hc
              cases ha; cases hc; omega
          · (try dsimp only)
            omega
          · repeat (first | exact Sub.nil | refine Sub.cons rfl ?_)
          · (try dsimp only)
            (repeat (first | exact Ka | refine Kb ?_ | refine Kc ?_ | refine Kf ?_ | refine Kd ?_ | refine Ke ?_ | refine Kh ?_ | refine Kg rfl ?_ | refine Ki ?_ | refine Kj ?_ | refine Kk ?_ | refine Kl ?_ | refine Km ?_ | refine Kn ?_ | refine Ko ?_))
      · skip
        try simp only [Za, Zb, Zc, Zd, Ze, Zf, Zg, Zh] at h2
        have hri : rise l = true := (rise_iff l).2 fun j x y hx hy => hall j x y (by have := (List.getElem?_eq_some_iff.1 hy).1; omega) hx hy
        have hul := uv_len10 (n := l.length) (by omega)
        refine w_exit (sq_e (lq_e (bk_h (sq_n (w_seq (w_region (?_)))))))
        refine o_ev (ev_move rfl) rfl ?_
        refine o_ev (ev_move rfl) rfl ?_
        refine o_ev (ev_len1 rfl) rfl ?_
        refine o_ev ((by first | exact ev_convL 18446744073709551616 rfl rfl rfl _ rfl (by omega) | exact ev_convM 18446744073709551616 rfl rfl rfl _ rfl)) rfl ?_
        refine o_st (st_call (vs := [_, _]) rfl (wUvarint l.length (by omega) (by omega))) rfl ?_
        rintro _ _ ⟨rfl, rfl⟩
        refine o_nil (sq_n (w_seq (w_region (?_))))
        refine o_ev (ev_assign rfl) rfl ?_
        refine o_nil (sq_n (w_seq (w_seq (w_region (?_)))))
        refine o_ev (ev_move rfl) rfl ?_
        refine o_ev (ev_len1 rfl) rfl ?_
        refine o_ev (ev_move rfl) rfl ?_
        refine o_nil (sq_n (w_block (?_)))
        refine w_loop (Nat × Int × List Nat) (fun y => y.1 ≤ l.length ∧ y.2.2 ++ riseB y.2.1 (l.drop y.1) = xs ++ (uv l.length ++ riseB (-1) l) ∧ y.2.2.length ≤ xs.length + 10 + 10 * y.1 ∧ -1 ≤ y.2.1 ∧ (y.1 = 0 → y.2.1 = -1) ∧ ∀ x, 0 < y.1 → l[y.1 - 1]? = some x → x = y.2.1) (fun y => [(0, .pointer (some ⟨b, 0, none⟩)), (6, .int .i64 y.2.1), (34, s.val), (35, .int .i64 ((l.length : Nat) : Int)), (36, .int .i64 ((y.1 : Nat) : Int))]) (fun y => Wr b y.2.2 :: R) (fun y => l.length - y.1) ((0, -1, xs ++ uv l.length)) ?_ ?_ ?_ ?_
        · (try dsimp only)
          refine ⟨Nat.zero_le _, by simp, by simp; omega, Int.le_refl _, fun _ => rfl, fun x h => absurd h (Nat.lt_irrefl _)⟩
        · repeat (first | exact Sub.nil | refine Sub.cons rfl ?_)
        · (try dsimp only)
          (repeat (first | exact Ka | refine Kb ?_ | refine Kc ?_ | refine Kf ?_ | refine Kd ?_ | refine Ke ?_ | refine Kh ?_ | refine Kg rfl ?_ | refine Ki ?_ | refine Kj ?_ | refine Kk ?_ | refine Kl ?_ | refine Km ?_ | refine Kn ?_ | refine Ko ?_))
        · rintro ⟨k, last, zs⟩ ⟨hk, hI, hlen, hlast, hz, hprev⟩
          (try dsimp only at *)
          refine w_seq (w_region (?_))
          refine o_ev (ev_lss rfl rfl) rfl ?_
          refine o_nil (sq_n (w_seq (?_)))
          refine w_if rfl (fun h4 => ?_) (fun h4 => ?_)
          · skip
            try simp only [Za, Zb, Zc, Zd, Ze, Zf, Zg, Zh] at h4
            obtain ⟨x, hx⟩ : ∃ x, l[k]? = some x := ⟨_, List.getElem?_eq_getElem (by omega)⟩
            have hx0 := hb k x hx
            have hxm := hl x (List.mem_of_getElem? hx)
            have hgt : last < x := by
              rcases Nat.eq_zero_or_pos k with h0 | h0
              · have := hz h0; omega
              · obtain ⟨w, hw⟩ : ∃ w, l[k - 1]? = some w := ⟨_, List.getElem?_eq_getElem (by omega)⟩
                have h3 := hprev w h0 hw
                have h4 := (rise_iff l).1 hri (k - 1) w x hw (by rw [Nat.sub_add_cancel h0]; exact hx)
                omega
            refine w_skip (sq_n (w_seq (w_block (w_seq (w_region (?_))))))
            refine o_ev (ev_indexAddr rfl rfl _ rfl (by omega)) rfl ?_
            refine o_ev (ev_load_el rfl (by rfl) (by rfl) _ (by first | assumption | rfl | exact List.getElem?_eq_getElem (by omega))) rfl ?_
            refine o_ev (ev_assign rfl) rfl ?_
            refine o_nil (sq_n (w_seq (w_region (?_))))
            refine o_ev (ev_move rfl) rfl ?_
            refine o_ev (ev_move rfl) rfl ?_
            refine o_ev (ev_move rfl) rfl ?_
            refine o_ev (ev_subE rfl rfl _ rfl) rfl ?_
            refine o_ev (ev_subE rfl rfl (x - last - 1) (by rw [IntKind.wrap_i64, IntKind.wrap_i64]; omega)) rfl ?_
            refine o_ev (ev_convL 18446744073709551616 rfl rfl rfl (x - last - 1).toNat (by omega) (by omega)) rfl ?_
            refine o_st (st_call (vs := [_, _]) rfl (wUvarint (x - last - 1).toNat (by omega) (by omega))) rfl ?_
            rintro _ _ ⟨rfl, rfl⟩
            refine o_nil (sq_n (w_region (?_)))
            refine o_ev (ev_move rfl) rfl ?_
            refine o_ev (ev_assign rfl) rfl ?_
            refine o_nil (bk_n (sq_n (w_region (?_))))
            refine o_ev (ev_add rfl rfl (by omega)) rfl ?_
            refine o_ev (ev_move rfl) rfl ?_
            refine o_nil (?_)
            skip
            refine lq_n ((k + 1, x, zs ++ uv (x - last - 1).toNat)) ?_ ?_ ?_ ?_
            · (try dsimp only)
              have hul2 := uv_len10 (n := (x - last - 1).toNat) (by omega)
              refine ⟨by omega, ?_, by simp only [List.length_append]; omega, by omega, fun h => by omega, fun w _ hw => ?_⟩
              · rw [← hI, drop_get hx, riseB, List.append_assoc]
              · rw [Nat.add_sub_cancel] at hw
                rw [hx] at hw; cases hw; rfl
            · (try dsimp only)
              omega
            · repeat (first | exact Sub.nil | refine Sub.cons rfl ?_)
            · (try dsimp only)
              (repeat (first | exact Ka | refine Kb ?_ | refine Kc ?_ | refine Kf ?_ | refine Kd ?_ | refine Ke ?_ | refine Kh ?_ | refine Kg rfl ?_ | refine Ki ?_ | refine Kj ?_ | refine Kk ?_ | refine Kl ?_ | refine Km ?_ | refine Kn ?_ | refine Ko ?_))
          · skip
            try simp only [Za, Zb, Zc, Zd, Ze, Zf, Zg, Zh] at h4
            obtain rfl : k = l.length := by omega
            have e : zs = xs ++ (uv l.length ++ riseB (-1) l) := by rw [← hI]; simp [riseB]
            refine w_exit (sq_e (lq_e (bk_h (sq_n (w_seq (w_region (?_)))))))
            refine o_ev (ev_assign rfl) rfl ?_
            refine o_nil (sq_n (w_ret (?_)))
            refine res_intro (vs := [_]) Tryz.results75 (.inr rfl) (.cons (.tmp rfl) (.nil)) ?_
            exact ⟨_, Ka, .inr (.inr ⟨h1, hri, rfl, by rw [e]⟩)⟩
end Go.Sx
