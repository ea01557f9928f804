import Derived.Test.YtcbidldebfibkaaGreatDoorW10
set_option linter.unusedVariables false
set_option linter.unusedSimpArgs false
set_option linter.unusedSectionVars false
set_option linter.unnecessarySimpa false
namespace Go.Sx
open Go Go.Proofs
set_option maxRecDepth 100000
set_option linter.unusedSimpArgs false
set_option linter.unusedVariables false

theorem sealPr {G : Base} {H : Heap} {s : SV} {xs : List Nat} [Tab H 24 sealT] [Sl H s eB xs] (hn : xs.length ≤ 1000000000000) (hb : ∀ x ∈ xs, x < 256) : SC G Tryz.prog 79 [s.val] H (fun v H' => v = .int .u32 ((sealS xs : Nat) : Int) ∧ H' = H) := by
  refine SC.out (sc_walk Tryz.func79 rfl Tryz.ntmps79 (by kernel_rfl) (Nat.le_of_ble_eq_true rfl) ?_)
  refine w_seq (w_region (?_))
  refine o_ev (ev_assign rfl) rfl ?_
  refine o_nil (sq_n (w_seq (w_region (?_))))
  refine o_ev (ev_assign rfl) rfl ?_
  refine o_nil (sq_n (w_seq (w_seq (w_region (?_)))))
  refine o_ev (ev_move rfl) rfl ?_
  refine o_ev (ev_len1 rfl) rfl ?_
  refine o_ev (ev_move rfl) rfl ?_
  refine o_nil (sq_n (w_block (?_)))
  refine w_loop (Nat × Nat) (fun y => y.1 ≤ xs.length ∧ y.2 = crcR sealP 4294967295 (xs.take y.1) ∧ y.2 < 4294967296) (fun y => [(3, .int .u32 ((y.2 : Nat) : Int)), (6, s.val), (7, .int .i64 ((xs.length : Nat) : Int)), (8, .int .i64 ((y.1 : Nat) : Int))]) (fun _ => H) (fun y => xs.length - y.1) ((0, 4294967295)) ?_ ?_ ?_ ?_
  · (try dsimp only)
    exact ⟨Nat.zero_le _, rfl, by omega⟩
  · repeat (first | exact Sub.nil | refine Sub.cons rfl ?_)
  · (try dsimp only)
    (repeat (first | exact Ka | refine Kb ?_ | refine Kc ?_ | refine Kf ?_ | refine Kd ?_ | refine Ke ?_ | refine Kh ?_ | refine Kg rfl ?_ | refine Ki ?_ | refine Kj ?_ | refine Kk ?_ | refine Kl ?_ | refine Km ?_ | refine Kn ?_ | refine Ko ?_))
  · rintro ⟨i, r⟩ ⟨hi, hI, hr1⟩
    (try dsimp only at *)
    refine w_seq (w_region (?_))
    refine o_ev (ev_lss rfl rfl) rfl ?_
    refine o_nil (sq_n (w_seq (?_)))
    refine w_if rfl (fun h1 => ?_) (fun h1 => ?_)
    · skip
      try simp only [Za, Zb, Zc, Zd, Ze, Zf, Zg, Zh] at h1
      obtain ⟨x, hx⟩ : ∃ x, xs[i]? = some x := ⟨_, List.getElem?_eq_getElem (by omega)⟩
      have hxb := hb x (List.mem_of_getElem? hx)
      have h1x : r ^^^ x < 4294967296 := xor_lt hr1 (by omega)
      have h1z := seal_get (r ^^^ x)
      have h2b : bs4 sealP ((r ^^^ x) % 16) < 4294967296 := bs4_lt (by decide) (by omega)
      have h2x : bs4 sealP (r ^^^ x) < 4294967296 := bs4_lt (by decide) h1x
      have h2z := seal_get (bs4 sealP (r ^^^ x))
      have h3b : bs4 sealP (bs4 sealP (r ^^^ x) % 16) < 4294967296 := bs4_lt (by decide) (by omega)
      refine w_skip (sq_n (w_seq (w_block (w_seq (w_region (?_))))))
      refine o_ev (ev_indexAddr rfl rfl _ rfl (by omega)) rfl ?_
      refine o_ev (ev_load_el rfl (by rfl) (by rfl) _ (by first | assumption | rfl | exact List.getElem?_eq_getElem (by omega))) rfl ?_
      refine o_ev (ev_assign rfl) rfl ?_
      refine o_nil (sq_n (w_seq (w_region (?_))))
      refine o_ev (ev_move rfl) rfl ?_
      refine o_ev (ev_move rfl) rfl ?_
      refine o_ev ((by first | exact ev_convL 4294967296 rfl rfl rfl _ rfl (by omega) | exact ev_convM 4294967296 rfl rfl rfl _ rfl)) rfl ?_
      refine o_ev (ev_xorM 4294967296 rfl rfl rfl rfl _ _ rfl rfl (by first | decide | omega) (by first | decide | omega)) rfl ?_
      refine o_ev (ev_assign rfl) rfl ?_
      refine o_nil (sq_n (w_seq (w_region (?_))))
      refine o_ev (ev_move rfl) rfl ?_
      refine o_ev (ev_shru rfl rfl _ 4 rfl rfl (by first | decide | (show _ ≤ 32; omega))) rfl ?_
      refine o_ev (ev_move rfl) rfl ?_
      refine o_ev (ev_andM 4294967296 rfl rfl rfl rfl _ 15 rfl rfl (by first | decide | omega) (by first | decide | omega)) rfl ?_
      refine o_ev (ev_indexAddr_arr rfl rfl ((r ^^^ x) &&& 15) rfl (by rw [and15]; omega)) rfl ?_
      refine o_ev (ev_load_at rfl h1z) rfl ?_
      refine o_ev (ev_xorM 4294967296 rfl rfl rfl rfl _ _ rfl rfl (by first | decide | omega) (by first | decide | omega)) rfl ?_
      refine o_ev (ev_assign rfl) rfl ?_
      refine o_nil (sq_n (w_region (?_)))
      rw [nib]
      refine o_ev (ev_move rfl) rfl ?_
      refine o_ev (ev_shru rfl rfl _ 4 rfl rfl (by first | decide | (show _ ≤ 32; omega))) rfl ?_
      refine o_ev (ev_move rfl) rfl ?_
      refine o_ev (ev_andM 4294967296 rfl rfl rfl rfl _ 15 rfl rfl (by first | decide | omega) (by first | decide | omega)) rfl ?_
      refine o_ev (ev_indexAddr_arr rfl rfl (bs4 sealP (r ^^^ x) &&& 15) rfl (by rw [and15]; omega)) rfl ?_
      refine o_ev (ev_load_at rfl h2z) rfl ?_
      refine o_ev (ev_xorM 4294967296 rfl rfl rfl rfl _ _ rfl rfl (by first | decide | omega) (by first | decide | omega)) rfl ?_
      refine o_ev (ev_assign rfl) rfl ?_
      refine o_nil (bk_n (sq_n (w_region (?_))))
      rw [nib]
      refine o_ev (ev_add rfl rfl (by omega)) rfl ?_
      refine o_ev (ev_move rfl) rfl ?_
      refine o_nil (?_)
      skip
      refine lq_n ((i + 1, bs4 sealP (bs4 sealP (r ^^^ x)))) ?_ ?_ ?_ ?_
      · (try dsimp only)
        refine ⟨by omega, ?_, bs4_lt (by decide) h2x⟩
        rw [take_succ_get hx, crcR_snoc, ← hI]; rfl
      · (try dsimp only)
        omega
      · repeat (first | exact Sub.nil | refine Sub.cons rfl ?_)
      · (try dsimp only)
        (repeat (first | exact Ka | refine Kb ?_ | refine Kc ?_ | refine Kf ?_ | refine Kd ?_ | refine Ke ?_ | refine Kh ?_ | refine Kg rfl ?_ | refine Ki ?_ | refine Kj ?_ | refine Kk ?_ | refine Kl ?_ | refine Km ?_ | refine Kn ?_ | refine Ko ?_))
    · skip
      try simp only [Za, Zb, Zc, Zd, Ze, Zf, Zg, Zh] at h1
      obtain rfl : i = xs.length := by omega
      rw [List.take_length] at hI
      refine w_exit (sq_e (lq_e (bk_h (sq_n (w_seq (w_region (?_)))))))
      refine o_ev (ev_move rfl) rfl ?_
      refine o_ev (ev_notM 4294967296 rfl rfl rfl _ rfl (by omega)) rfl ?_
      refine o_ev (ev_assign rfl) rfl ?_
      refine o_nil (sq_n (w_ret (?_)))
      refine res_intro (vs := [_]) Tryz.results79 (.inr rfl) (.cons (.tmp rfl) (.nil)) ?_
      exact ⟨_, Ka, by rw [hI]; rfl, rfl⟩

theorem extend0 {G : Base} {H : Heap} {s : SV} {xs : List Nat} [Tab H 26 zipT] [Sl H s eB xs] (hn : xs.length ≤ 1000000000000) (hb : ∀ x ∈ xs, x < 256) : SC G Tryz.prog 145 [.int .u32 0, s.val] H (fun v H' => v = .int .u32 ((zipS xs : Nat) : Int) ∧ H' = H) := by
  have hc := crcR_lt (p := zipP) (by decide) xs 4294967295 (by decide) hb
  refine SC.out (sc_walk Tryz.func145 rfl Tryz.ntmps145 (by kernel_rfl) (Nat.le_of_ble_eq_true rfl) ?_)
  refine w_seq (w_region (?_))
  refine o_ev (ev_assign rfl) rfl ?_
  refine o_nil (sq_n (w_seq (w_region (?_))))
  refine o_ev (ev_move rfl) rfl ?_
  refine o_ev (ev_notM 4294967296 rfl rfl rfl 0 rfl (by omega)) rfl ?_
  refine o_ev (ev_move rfl) rfl ?_
  refine o_st (st_call (vs := [_, _]) rfl (rollP 4294967295 (by decide) hn hb)) rfl ?_
  rintro _ _ ⟨rfl, rfl⟩
  refine o_ev (ev_notM 4294967296 rfl rfl rfl _ rfl hc) rfl ?_
  refine o_ev (ev_assign rfl) rfl ?_
  refine o_nil (sq_n (w_ret (?_)))
  refine res_intro (vs := [_]) Tryz.results145 (.inr rfl) (.cons (.tmp rfl) (.nil)) ?_
  exact ⟨_, Ka, rfl, rfl⟩

theorem zipPr {G : Base} {H : Heap} {s : SV} {xs : List Nat} [Tab H 26 zipT] [Sl H s eB xs] (hn : xs.length ≤ 1000000000000) (hb : ∀ x ∈ xs, x < 256) : SC G Tryz.prog 117 [s.val] H (fun v H' => v = .int .u32 ((zipS xs : Nat) : Int) ∧ H' = H) := by
  refine SC.out (sc_walk Tryz.func117 rfl Tryz.ntmps117 (by kernel_rfl) (Nat.le_of_ble_eq_true rfl) ?_)
  refine w_seq (w_region (?_))
  refine o_ev (ev_assign rfl) rfl ?_
  refine o_nil (sq_n (w_seq (w_region (?_))))
  refine o_ev (ev_move rfl) rfl ?_
  refine o_st (st_call (vs := [_, _]) rfl (extend0 hn hb)) rfl ?_
  rintro _ _ ⟨rfl, rfl⟩
  refine o_ev (ev_assign rfl) rfl ?_
  refine o_nil (sq_n (w_ret (?_)))
  refine res_intro (vs := [_]) Tryz.results117 (.inr rfl) (.cons (.tmp rfl) (.nil)) ?_
  exact ⟨_, by (repeat (first | exact Ka | refine Kb ?_ | refine Kc ?_ | refine Kf ?_ | refine Kd ?_ | refine Ke ?_ | refine Kh ?_ | refine Kg rfl ?_ | refine Ki ?_ | refine Kj ?_ | refine Kk ?_ | refine Kl ?_ | refine Km ?_ | refine Kn ?_ | refine Ko ?_)), rfl, rfl⟩

def bsN (p : Nat) : Nat → Nat → Nat
  | 0, r => r
  | n + 1, r => bsN p n (bs p r)
/-! The same by the reference: bit by bit. -/
theorem refStep {G : Base} {H : Heap} (r x p : Nat) (hr : r < 4294967296) (hx : x < 256) (hp : p < 4294967296) : SC G Tryz.prog 144 [.int .u32 ((r : Nat) : Int), .int .u8 ((x : Nat) : Int), .int .u32 ((p : Nat) : Int)] H (fun v H' => v = .int .u32 ((crcB p r x : Nat) : Int) ∧ H' = H) := by
  have h1x : r ^^^ x < 4294967296 := xor_lt hr (by omega)
  refine SC.out (sc_walk Tryz.func144 rfl Tryz.ntmps144 (by kernel_rfl) (Nat.le_of_ble_eq_true rfl) ?_)
  refine w_seq (w_region (?_))
  refine o_ev (ev_assign rfl) rfl ?_
  refine o_nil (sq_n (w_seq (w_region (?_))))
  refine o_ev (ev_move rfl) rfl ?_
  refine o_ev (ev_move rfl) rfl ?_
  refine o_ev ((by first | exact ev_convL 4294967296 rfl rfl rfl _ rfl (by omega) | exact ev_convM 4294967296 rfl rfl rfl _ rfl)) rfl ?_
  refine o_ev (ev_xorM 4294967296 rfl rfl rfl rfl _ _ rfl rfl (by first | decide | omega) (by first | decide | omega)) rfl ?_
  refine o_ev (ev_assign rfl) rfl ?_
  refine o_nil (sq_n (w_seq (w_seq (w_region (?_)))))
  refine o_ev (ev_assign rfl) rfl ?_
  refine o_nil (sq_n (w_block (?_)))
  refine w_loop (Nat × Nat) (fun y => y.1 ≤ 8 ∧ bsN p (8 - y.1) y.2 = crcB p r x ∧ y.2 < 4294967296) (fun y => [(0, .int .u32 ((y.2 : Nat) : Int)), (2, .int .u32 ((p : Nat) : Int)), (7, .int .i64 ((y.1 : Nat) : Int))]) (fun _ => H) (fun y => 8 - y.1) ((0, r ^^^ x)) ?_ ?_ ?_ ?_
  · (try dsimp only)
    exact ⟨Nat.zero_le _, rfl, h1x⟩
  · repeat (first | exact Sub.nil | refine Sub.cons rfl ?_)
  · (try dsimp only)
    (repeat (first | exact Ka | refine Kb ?_ | refine Kc ?_ | refine Kf ?_ | refine Kd ?_ | refine Ke ?_ | refine Kh ?_ | refine Kg rfl ?_ | refine Ki ?_ | refine Kj ?_ | refine Kk ?_ | refine Kl ?_ | refine Km ?_ | refine Kn ?_ | refine Ko ?_))
  · rintro ⟨i, q⟩ ⟨hi, hI, hq⟩
    (try dsimp only at *)
    refine w_seq (w_seq (w_region (?_)))
    refine o_ev (ev_move rfl) rfl ?_
    refine o_ev (ev_lss rfl rfl) rfl ?_
    refine o_nil (sq_n (?_))
    refine w_if rfl (fun h1 => ?_) (fun h1 => ?_)
    · skip
      try simp only [Za, Zb, Zc, Zd, Ze, Zf, Zg, Zh] at h1
      obtain ⟨d, hd⟩ : ∃ d, 8 - i = d + 1 := ⟨8 - i - 1, by omega⟩
      have ha := and1 q
      rw [hd] at hI
      refine w_skip (sq_n (w_seq (w_block (w_seq (w_region (?_))))))
      refine o_ev (ev_move rfl) rfl ?_
      refine o_ev (ev_andM 4294967296 rfl rfl rfl rfl _ 1 rfl rfl (by first | decide | omega) (by first | decide | omega)) rfl ?_
      refine o_ev (ev_eql rfl rfl) rfl ?_
      refine o_nil (sq_n (?_))
      refine w_if rfl (fun h2 => ?_) (fun h2 => ?_)
      · skip
        try simp only [Za, Zb, Zc, Zd, Ze, Zf, Zg, Zh] at h2
        have e : bs p q = (q / 2 ^ 1) ^^^ p := by unfold bs; rw [if_pos (by omega)]
        refine w_region (?_)
        refine o_ev (ev_move rfl) rfl ?_
        refine o_ev (ev_shru rfl rfl _ 1 rfl rfl (by first | decide | (show _ ≤ 32; omega))) rfl ?_
        refine o_ev (ev_move rfl) rfl ?_
        refine o_ev (ev_xorM 4294967296 rfl rfl rfl rfl _ _ rfl rfl (by first | decide | omega) (by first | decide | omega)) rfl ?_
        refine o_ev (ev_assign rfl) rfl ?_
        refine o_nil (bk_n (sq_n (w_region (?_))))
        refine o_ev (ev_move rfl) rfl ?_
        refine o_ev (ev_add rfl rfl (by omega)) rfl ?_
        refine o_ev (ev_assign rfl) rfl ?_
        refine o_nil (?_)
        have hlt := bs_lt hp hq
        rw [← e]
        refine lq_n ((i + 1, bs p q)) ?_ ?_ ?_ ?_
        · (try dsimp only)
          refine ⟨by omega, ?_, hlt⟩
          rw [show 8 - (i + 1) = d by omega]; exact hI
        · (try dsimp only)
          omega
        · repeat (first | exact Sub.nil | refine Sub.cons rfl ?_)
        · (try dsimp only)
          (repeat (first | exact Ka | refine Kb ?_ | refine Kc ?_ | refine Kf ?_ | refine Kd ?_ | refine Ke ?_ | refine Kh ?_ | refine Kg rfl ?_ | refine Ki ?_ | refine Kj ?_ | refine Kk ?_ | refine Kl ?_ | refine Km ?_ | refine Kn ?_ | refine Ko ?_))
      · skip
        try simp only [Za, Zb, Zc, Zd, Ze, Zf, Zg, Zh] at h2
        have e : bs p q = q / 2 ^ 1 := by unfold bs; rw [if_neg (by omega)]
        refine w_region (?_)
        refine o_ev (ev_move rfl) rfl ?_
        refine o_ev (ev_shru rfl rfl _ 1 rfl rfl (by first | decide | (show _ ≤ 32; omega))) rfl ?_
        refine o_ev (ev_assign rfl) rfl ?_
        refine o_nil (bk_n (sq_n (w_region (?_))))
        refine o_ev (ev_move rfl) rfl ?_
        refine o_ev (ev_add rfl rfl (by omega)) rfl ?_
        refine o_ev (ev_assign rfl) rfl ?_
        refine o_nil (?_)
        have hlt := bs_lt hp hq
        rw [← e]
        refine lq_n ((i + 1, bs p q)) ?_ ?_ ?_ ?_
        · (try dsimp only)
          refine ⟨by omega, ?_, hlt⟩
          rw [show 8 - (i + 1) = d by omega]; exact hI
        · (try dsimp only)
          omega
        · repeat (first | exact Sub.nil | refine Sub.cons rfl ?_)
        · (try dsimp only)
          (repeat (first | exact Ka | refine Kb ?_ | refine Kc ?_ | refine Kf ?_ | refine Kd ?_ | refine Ke ?_ | refine Kh ?_ | refine Kg rfl ?_ | refine Ki ?_ | refine Kj ?_ | refine Kk ?_ | refine Kl ?_ | refine Km ?_ | refine Kn ?_ | refine Ko ?_))
    · skip
      try simp only [Za, Zb, Zc, Zd, Ze, Zf, Zg, Zh] at h1
      obtain rfl : i = 8 := by omega
      have e : q = crcB p r x := hI
      refine w_exit (sq_e (lq_e (bk_h (sq_n (w_seq (w_region (?_)))))))
      refine o_ev (ev_move rfl) rfl ?_
      refine o_ev (ev_assign rfl) rfl ?_
      refine o_nil (sq_n (w_ret (?_)))
      refine res_intro (vs := [_]) Tryz.results144 (.inr rfl) (.cons (.tmp rfl) (.nil)) ?_
      exact ⟨_, Ka, by rw [e]; rfl, rfl⟩

theorem refRun {G : Base} {H : Heap} {s : SV} {xs : List Nat} [Sl H s eB xs] (r0 p : Nat) (hr : r0 < 4294967296) (hp : p < 4294967296) (hn : xs.length ≤ 1000000000000) (hb : ∀ x ∈ xs, x < 256) : SC G Tryz.prog 113 [.int .u32 ((r0 : Nat) : Int), s.val, .int .u32 ((p : Nat) : Int)] H (fun v H' => v = .int .u32 ((crcR p r0 xs : Nat) : Int) ∧ H' = H) := by
  refine SC.out (sc_walk Tryz.func113 rfl Tryz.ntmps113 (by kernel_rfl) (Nat.le_of_ble_eq_true rfl) ?_)
  refine w_seq (w_region (?_))
  refine o_ev (ev_assign rfl) rfl ?_
  refine o_nil (sq_n (w_seq (w_seq (w_region (?_)))))
  refine o_ev (ev_move rfl) rfl ?_
  refine o_ev (ev_len1 rfl) rfl ?_
  refine o_ev (ev_move rfl) rfl ?_
  refine o_nil (sq_n (w_block (?_)))
  refine w_loop (Nat × Nat) (fun y => y.1 ≤ xs.length ∧ y.2 = crcR p r0 (xs.take y.1) ∧ y.2 < 4294967296) (fun y => [(0, .int .u32 ((y.2 : Nat) : Int)), (2, .int .u32 ((p : Nat) : Int)), (9, s.val), (10, .int .i64 ((xs.length : Nat) : Int)), (11, .int .i64 ((y.1 : Nat) : Int))]) (fun _ => H) (fun y => xs.length - y.1) ((0, r0)) ?_ ?_ ?_ ?_
  · (try dsimp only)
    exact ⟨Nat.zero_le _, rfl, hr⟩
  · repeat (first | exact Sub.nil | refine Sub.cons rfl ?_)
  · (try dsimp only)
    (repeat (first | exact Ka | refine Kb ?_ | refine Kc ?_ | refine Kf ?_ | refine Kd ?_ | refine Ke ?_ | refine Kh ?_ | refine Kg rfl ?_ | refine Ki ?_ | refine Kj ?_ | refine Kk ?_ | refine Kl ?_ | refine Km ?_ | refine Kn ?_ | refine Ko ?_))
  · rintro ⟨i, r⟩ ⟨hi, hI, hr1⟩
    (try dsimp only at *)
    refine w_seq (w_region (?_))
    refine o_ev (ev_lss rfl rfl) rfl ?_
    refine o_nil (sq_n (w_seq (?_)))
    refine w_if rfl (fun h1 => ?_) (fun h1 => ?_)
    · skip
      try simp only [Za, Zb, Zc, Zd, Ze, Zf, Zg, Zh] at h1
      obtain ⟨x, hx⟩ : ∃ x, xs[i]? = some x := ⟨_, List.getElem?_eq_getElem (by omega)⟩
      have hxb := hb x (List.mem_of_getElem? hx)
      refine w_skip (sq_n (w_seq (w_block (w_seq (w_region (?_))))))
      refine o_ev (ev_indexAddr rfl rfl _ rfl (by omega)) rfl ?_
      refine o_ev (ev_load_el rfl (by rfl) (by rfl) _ (by first | assumption | rfl | exact List.getElem?_eq_getElem (by omega))) rfl ?_
      refine o_ev (ev_assign rfl) rfl ?_
      refine o_nil (sq_n (w_region (?_)))
      refine o_ev (ev_move rfl) rfl ?_
      refine o_ev (ev_move rfl) rfl ?_
      refine o_ev (ev_move rfl) rfl ?_
      refine o_st (st_call (vs := [_, _, _]) rfl (refStep r x p hr1 hxb hp)) rfl ?_
      rintro _ _ ⟨rfl, rfl⟩
      refine o_ev (ev_assign rfl) rfl ?_
      refine o_nil (bk_n (sq_n (w_region (?_))))
      refine o_ev (ev_add rfl rfl (by omega)) rfl ?_
      refine o_ev (ev_move rfl) rfl ?_
      refine o_nil (?_)
      skip
      refine lq_n ((i + 1, crcB p r x)) ?_ ?_ ?_ ?_
      · (try dsimp only)
        refine ⟨by omega, ?_, crcB_lt hp hr1 hxb⟩
        rw [take_succ_get hx, crcR_snoc, ← hI]
      · (try dsimp only)
        omega
      · repeat (first | exact Sub.nil | refine Sub.cons rfl ?_)
      · (try dsimp only)
        (repeat (first | exact Ka | refine Kb ?_ | refine Kc ?_ | refine Kf ?_ | refine Kd ?_ | refine Ke ?_ | refine Kh ?_ | refine Kg rfl ?_ | refine Ki ?_ | refine Kj ?_ | refine Kk ?_ | refine Kl ?_ | refine Km ?_ | refine Kn ?_ | refine Ko ?_))
    · skip
      try simp only [Za, Zb, Zc, Zd, Ze, Zf, Zg, Zh] at h1
      obtain rfl : i = xs.length := by omega
      rw [List.take_length] at hI
      refine w_exit (sq_e (lq_e (bk_h (sq_n (w_seq (w_region (?_)))))))
      refine o_ev (ev_move rfl) rfl ?_
      refine o_ev (ev_assign rfl) rfl ?_
      refine o_nil (sq_n (w_ret (?_)))
      refine res_intro (vs := [_]) Tryz.results113 (.inr rfl) (.cons (.tmp rfl) (.nil)) ?_
      exact ⟨_, Ka, by rw [hI]; rfl, rfl⟩

theorem refExtend0 {G : Base} {H : Heap} {s : SV} {xs : List Nat} [Sl H s eB xs] (hn : xs.length ≤ 1000000000000) (hb : ∀ x ∈ xs, x < 256) : SC G Tryz.prog 143 [.int .u32 0, s.val] H (fun v H' => v = .int .u32 ((zipS xs : Nat) : Int) ∧ H' = H) := by
  have hc := crcR_lt (p := zipP) (by decide) xs 4294967295 (by decide) hb
  refine SC.out (sc_walk Tryz.func143 rfl Tryz.ntmps143 (by kernel_rfl) (Nat.le_of_ble_eq_true rfl) ?_)
  refine w_seq (w_region (?_))
  refine o_ev (ev_assign rfl) rfl ?_
  refine o_nil (sq_n (w_seq (w_region (?_))))
  refine o_ev (ev_move rfl) rfl ?_
  refine o_ev (ev_notM 4294967296 rfl rfl rfl 0 rfl (by omega)) rfl ?_
  refine o_ev (ev_move rfl) rfl ?_
  refine o_st (st_call (vs := [_, _, _]) rfl (refRun 4294967295 zipP (by decide) (by decide) hn hb)) rfl ?_
  rintro _ _ ⟨rfl, rfl⟩
  refine o_ev (ev_notM 4294967296 rfl rfl rfl _ rfl hc) rfl ?_
  refine o_ev (ev_assign rfl) rfl ?_
  refine o_nil (sq_n (w_ret (?_)))
  refine res_intro (vs := [_]) Tryz.results143 (.inr rfl) (.cons (.tmp rfl) (.nil)) ?_
  exact ⟨_, Ka, rfl, rfl⟩
theorem refSum {G : Base} {H : Heap} {s : SV} {xs : List Nat} [Sl H s eB xs] (hn : xs.length ≤ 1000000000000) (hb : ∀ x ∈ xs, x < 256) : SC G Tryz.prog 112 [s.val] H (fun v H' => v = .int .u32 ((zipS xs : Nat) : Int) ∧ H' = H) := by
  refine SC.out (sc_walk Tryz.func112 rfl Tryz.ntmps112 (by kernel_rfl) (Nat.le_of_ble_eq_true rfl) ?_)
  refine w_seq (w_region (?_))
  refine o_ev (ev_assign rfl) rfl ?_
  refine o_nil (sq_n (w_seq (w_region (?_))))
  refine o_ev (ev_move rfl) rfl ?_
  refine o_st (st_call (vs := [_, _]) rfl (refExtend0 hn hb)) rfl ?_
  rintro _ _ ⟨rfl, rfl⟩
  refine o_ev (ev_assign rfl) rfl ?_
  refine o_nil (sq_n (w_ret (?_)))
  refine res_intro (vs := [_]) Tryz.results112 (.inr rfl) (.cons (.tmp rfl) (.nil)) ?_
  exact ⟨_, by (repeat (first | exact Ka | refine Kb ?_ | refine Kc ?_ | refine Kf ?_ | refine Kd ?_ | refine Ke ?_ | refine Kh ?_ | refine Kg rfl ?_ | refine Ki ?_ | refine Kj ?_ | refine Kk ?_ | refine Kl ?_ | refine Km ?_ | refine Kn ?_ | refine Ko ?_)), rfl, rfl⟩
theorem refSeal {G : Base} {H : Heap} {s : SV} {xs : List Nat} [Sl H s eB xs] (hn : xs.length ≤ 1000000000000) (hb : ∀ x ∈ xs, x < 256) : SC G Tryz.prog 70 [s.val] H (fun v H' => v = .int .u32 ((sealS xs : Nat) : Int) ∧ H' = H) := by
  have hc := crcR_lt (p := sealP) (by decide) xs 4294967295 (by decide) hb
  refine SC.out (sc_walk Tryz.func70 rfl Tryz.ntmps70 (by kernel_rfl) (Nat.le_of_ble_eq_true rfl) ?_)
  refine w_seq (w_region (?_))
  refine o_ev (ev_assign rfl) rfl ?_
  refine o_nil (sq_n (w_seq (w_region (?_))))
  refine o_ev (ev_move rfl) rfl ?_
  refine o_st (st_call (vs := [_, _, _]) rfl (refRun 4294967295 sealP (by decide) (by decide) hn hb)) rfl ?_
  rintro _ _ ⟨rfl, rfl⟩
  refine o_ev (ev_notM 4294967296 rfl rfl rfl _ rfl hc) rfl ?_
  refine o_ev (ev_assign rfl) rfl ?_
  refine o_nil (sq_n (w_ret (?_)))
  refine res_intro (vs := [_]) Tryz.results70 (.inr rfl) (.cons (.tmp rfl) (.nil)) ?_
  exact ⟨_, Ka, rfl, rfl⟩
end Go.Sx
namespace Go.Sx
open Go Go.Proofs
set_option maxRecDepth 100000
set_option linter.unusedSimpArgs false
set_option linter.unusedVariables false

/-! ## Blocks and images -/
theorem uv_lt : ∀ n, ∀ x ∈ uv n, x < 256 := by
  intro n
  induction n using Nat.strongRecOn with
  | _ n ih =>
    intro x hx
    by_cases h : n < 128
    · rw [uv_small h] at hx; simp at hx; omega
    · rw [uv_big h] at hx
      rcases List.mem_cons.1 hx with rfl | hx
      · omega
      · exact ih (n / 128) (by omega) x hx
theorem w32_lt (n : Nat) : ∀ x ∈ w32 n, x < 256 := by
  intro x hx
  simp only [w32, List.mem_cons, List.not_mem_nil, or_false] at hx
  omega
theorem zipS_lt {l : List Nat} (hb : ∀ x ∈ l, x < 256) : zipS l < 4294967296 := xor_lt (by decide) (crcR_lt (by decide) l _ (by decide) hb)
theorem sealS_lt {l : List Nat} (hb : ∀ x ∈ l, x < 256) : sealS l < 4294967296 := xor_lt (by decide) (crcR_lt (by decide) l _ (by decide) hb)
def encP (tag : Nat) (body : List Nat) : List Nat := [tag] ++ uv body.length ++ body
def encB (tag : Nat) (body : List Nat) : List Nat := encP tag body ++ w32 (zipS (encP tag body))
def encAll (bl : List (Nat × List Nat)) : List Nat := bl.flatMap fun q => encB q.1 q.2
def imgQ (kind : Nat) (bl : List (Nat × List Nat)) : List Nat := [99, 110, 99, 100] ++ [kind] ++ uv bl.length ++ encAll bl
def imgP (kind : Nat) (bl : List (Nat × List Nat)) : List Nat := imgQ kind bl ++ w32 (sealS (imgQ kind bl))
theorem encP_lt {tag : Nat} {body : List Nat} (ht : tag < 256) (hb : ∀ x ∈ body, x < 256) : ∀ x ∈ encP tag body, x < 256 := by
  intro x hx
  simp only [encP, List.mem_append, List.mem_singleton] at hx
  rcases hx with (rfl | hx) | hx
  · exact ht
  · exact uv_lt _ x hx
  · exact hb x hx
theorem encB_lt {tag : Nat} {body : List Nat} (ht : tag < 256) (hb : ∀ x ∈ body, x < 256) : ∀ x ∈ encB tag body, x < 256 := by
  intro x hx
  rcases List.mem_append.1 hx with hx | hx
  · exact encP_lt ht hb x hx
  · exact w32_lt _ x hx
theorem encAll_lt {bl : List (Nat × List Nat)} (h : ∀ q ∈ bl, q.1 < 256 ∧ ∀ x ∈ q.2, x < 256) : ∀ x ∈ encAll bl, x < 256 := by
  intro x hx
  obtain ⟨q, hq, hx⟩ := List.mem_flatMap.1 hx
  exact encB_lt (h q hq).1 (h q hq).2 x hx
theorem imgQ_lt {kind : Nat} {bl : List (Nat × List Nat)} (hk : kind < 256) (h : ∀ q ∈ bl, q.1 < 256 ∧ ∀ x ∈ q.2, x < 256) : ∀ x ∈ imgQ kind bl, x < 256 := by
  intro x hx
  simp only [imgQ, List.mem_append, List.mem_cons, List.not_mem_nil, or_false] at hx
  rcases hx with ((hx | rfl) | hx) | hx
  · omega
  · exact hk
  · exact uv_lt _ x hx
  · exact encAll_lt h x hx

/-- A block, as it lies in a list. -/
def eK : Enc (Nat × SV) := ⟨fun p => [.int .u8 ((p.1 : Nat) : Int), p.2.val], 2, true, fun _ => rfl, fun p v h => by simp at h; rcases h with rfl | rfl <;> rfl, by decide, fun h => by simp at h, by decide⟩
instance {p : Nat × SV} : EncW eK p (.agg [.int .u8 ((p.1 : Nat) : Int), p.2.val].toArray) := ⟨rfl⟩
instance {v : Value} {n : Nat} {s : SV} [h : EncV eB v n] : EncV eK (.agg [v, s.val].toArray) (n, s) := ⟨by have := h.out; subst this; rfl⟩
/-- What the blocks of a list hold. -/
def Bods (H : Heap) (l : List (Nat × SV)) (bl : List (Nat × List Nat)) : Prop := l.length = bl.length ∧ ∀ (i : Nat) (p : Nat × SV) (q : Nat × List Nat), l[i]? = some p → bl[i]? = some q → p.1 = q.1 ∧ Sl H p.2 eB q.2

theorem fEncode {G : Base} {H : Heap} {s : SV} {body : List Nat} [hg : Glb G H] [Tab H 26 zipT] [Sl H s eB body] (tag : Nat) (ht0 : tag ≠ 0) (ht : tag < 256) (hb : ∀ x ∈ body, x < 256) (hn : body.length ≤ 10000000000) : SC G Tryz.prog 77 [.int .u8 ((tag : Nat) : Int), s.val] H (fun v H' => ∃ s' : SV, v = .tuple #[s'.val, .nilIface] ∧ H' = Row s' eB (encB tag body) :: H) := by
  have hul := uv_len10 (n := body.length) (by omega)
  have hlen : (encP tag body).length ≤ 100000000000 := by simp only [encP, List.length_append, List.length_singleton]; omega
  refine SC.out (sc_walk Tryz.func77 rfl Tryz.ntmps77 (by kernel_rfl) (Nat.le_of_ble_eq_true rfl) ?_)
  refine w_seq (w_region (?_))
  refine o_ev (ev_assign rfl) rfl ?_
  refine o_ev (ev_assign rfl) rfl ?_
  refine o_nil (sq_n (w_seq (w_seq (w_region (?_)))))
  refine o_ev (ev_move rfl) rfl ?_
  refine o_ev (ev_eql rfl rfl) rfl ?_
  refine o_nil (sq_n (?_))
  refine w_if rfl (fun h1 => ?_) (fun h1 => ?_)
  · skip
    try simp only [Za, Zb, Zc, Zd, Ze, Zf, Zg, Zh] at h1
    exfalso; omega -- DONE
  · skip
    try simp only [Za, Zb, Zc, Zd, Ze, Zf, Zg, Zh] at h1
    refine w_skip (sq_n (w_seq (w_region (?_))))
    refine o_st (st_call (vs := []) rfl (newWriter)) rfl ?_
    rintro _ _ ⟨b1, rfl, rfl⟩
    refine o_ev (ev_assign rfl) rfl ?_
    refine o_nil (sq_n (w_seq (w_region (?_))))
    refine o_ev (ev_move rfl) rfl ?_
    refine o_ev (ev_move rfl) rfl ?_
    refine o_st (st_call (vs := [_, _]) rfl (wByte tag (by simp))) rfl ?_
    rintro _ _ ⟨rfl, rfl⟩
    refine o_nil (sq_n (w_seq (w_region (?_))))
    refine o_ev (ev_move rfl) rfl ?_
    refine o_ev (ev_move rfl) rfl ?_
    refine o_ev (ev_len1 rfl) rfl ?_
    refine o_ev ((by first | exact ev_convL 18446744073709551616 rfl rfl rfl _ rfl (by omega) | exact ev_convM 18446744073709551616 rfl rfl rfl _ rfl)) rfl ?_
    refine o_st (st_call (vs := [_, _]) rfl (wUvarint body.length (by omega) (by simp))) rfl ?_
    rintro _ _ ⟨rfl, rfl⟩
    refine o_nil (sq_n (w_seq (w_region (?_))))
    refine o_ev (ev_move rfl) rfl ?_
    refine o_ev (ev_move rfl) rfl ?_
    refine o_st (st_call (vs := [_, _]) rfl (wRaw (by simp only [List.length_append, List.length_nil, List.length_singleton]; omega) (by omega))) rfl ?_
    rintro _ _ ⟨rfl, rfl⟩
    refine o_nil (sq_n (w_seq (w_region (?_))))
    refine o_ev (ev_move rfl) rfl ?_
    refine o_ev (ev_move rfl) rfl ?_
    refine o_st (st_call (vs := [_]) rfl (wBytes (xs := encP tag body) (by omega))) rfl ?_
    rintro _ _ ⟨s1, rfl, rfl⟩
    refine o_st (st_call (vs := [_]) rfl (zipPr (xs := encP tag body) (by omega) (encP_lt ht hb))) rfl ?_
    rintro _ _ ⟨rfl, rfl⟩
    refine o_st (st_call (vs := [_, _]) rfl (wWord32 (zipS (encP tag body)) (by omega))) rfl ?_
    rintro _ _ ⟨rfl, rfl⟩
    refine o_nil (sq_n (w_seq (w_region (?_))))
    refine o_ev (ev_move rfl) rfl ?_
    refine o_st (st_call (vs := [_]) rfl (wBytes (xs := encB tag body) (by simp only [encB, List.length_append]; simp only [w32, List.length_cons, List.length_nil]; omega))) rfl ?_
    rintro _ _ ⟨s2, rfl, rfl⟩
    refine o_ev (ev_assign rfl) rfl ?_
    refine o_ev (ev_assign rfl) rfl ?_
    refine o_nil (sq_n (w_ret (?_)))
    refine res_intro (vs := [_, _]) Tryz.results77 (.inr rfl) (.cons (.tmp rfl) (.cons (.tmp rfl) (.nil))) ?_
    exact ⟨_, by (repeat (first | exact Ka | refine Kb ?_ | refine Kc ?_ | refine Kf ?_ | refine Kd ?_ | refine Ke ?_ | refine Kh ?_ | refine Kg rfl ?_ | refine Ki ?_ | refine Kj ?_ | refine Kk ?_ | refine Kl ?_ | refine Km ?_ | refine Kn ?_ | refine Ko ?_)), s2, rfl, rfl⟩
end Go.Sx
namespace Go.Sx
open Go Go.Proofs
set_option maxRecDepth 100000
set_option linter.unusedSimpArgs false
set_option linter.unusedVariables false

theorem w32_len (n : Nat) : (w32 n).length = 4 := rfl
theorem encAll_snoc (l : List (Nat × List Nat)) (q : Nat × List Nat) : encAll (l ++ [q]) = encAll l ++ encB q.1 q.2 := by simp [encAll]
theorem encAll_le : ∀ (l : List (Nat × List Nat)) (i : Nat), (encAll (l.take i)).length ≤ (encAll l).length
  | [], i => by simp
  | q :: l, 0 => by simp [encAll]
  | q :: l, i + 1 => by
    have := encAll_le l i
    simp only [encAll, List.take_succ_cons, List.flatMap_cons, List.length_append] at this ⊢
    omega
theorem body_le {l : List (Nat × List Nat)} {q : Nat × List Nat} (h : q ∈ l) : q.2.length ≤ (encAll l).length := by
  induction l with
  | nil => cases h
  | cons a l ih =>
    simp only [encAll, List.flatMap_cons, List.length_append] at ih ⊢
    rcases List.mem_cons.1 h with rfl | h
    · simp only [encB, encP, List.length_append]; omega
    · have := ih h; omega

theorem fPack {G : Base} {H : Heap} {s : SV} {l : List (Nat × SV)} {bl : List (Nat × List Nat)} [hg : Glb G H] [Tab H 26 zipT] [Tab H 24 sealT] [Sl H s eK l] (kind : Nat) (hk0 : kind ≠ 0) (hk : kind < 256) (hB : Bods H l bl) (ht : ∀ q ∈ bl, 0 < q.1 ∧ q.1 < 256 ∧ ∀ x ∈ q.2, x < 256) (hn : (encAll bl).length ≤ 1000000000) (hm : bl.length ≤ 1000000000) : SC G Tryz.prog 40 [.int .u8 ((kind : Nat) : Int), s.val] H (fun v H' => ∃ s' : SV, v = .tuple #[s'.val, .nilIface] ∧ H' = Row s' eB (imgP kind bl) :: H) := by
  obtain ⟨hlen, hbod⟩ := hB
  have hul := uv_len10 (n := bl.length) (by omega)
  have hql : (imgQ kind bl).length ≤ 10000000000 := by simp only [imgQ, List.length_append, List.length_cons, List.length_nil]; omega
  refine SC.out (sc_walk Tryz.func40 rfl Tryz.ntmps40 (by kernel_rfl) (Nat.le_of_ble_eq_true rfl) ?_)
  refine w_seq (w_region (?_))
  refine o_ev (ev_assign rfl) rfl ?_
  refine o_ev (ev_assign rfl) rfl ?_
  refine o_nil (sq_n (w_seq (w_seq (w_region (?_)))))
  refine o_ev (ev_move rfl) rfl ?_
  refine o_ev (ev_eql rfl rfl) rfl ?_
  refine o_nil (sq_n (?_))
  refine w_if rfl (fun h1 => ?_) (fun h1 => ?_)
  · skip
    try simp only [Za, Zb, Zc, Zd, Ze, Zf, Zg, Zh] at h1
    exfalso; omega -- DONE
  · skip
    try simp only [Za, Zb, Zc, Zd, Ze, Zf, Zg, Zh] at h1
    refine w_skip (sq_n (w_seq (w_region (?_))))
    refine o_st (st_call (vs := []) rfl (newWriter)) rfl ?_
    rintro _ _ ⟨b1, rfl, rfl⟩
    refine o_ev (ev_assign rfl) rfl ?_
    refine o_nil (sq_n (w_seq (w_region (?_))))
    refine o_ev (ev_move rfl) rfl ?_
    refine o_st (st_build4 eB rfl rfl rfl rfl rfl) rfl ?_
    rintro _ _ ⟨s1, rfl, rfl⟩
    refine o_st (st_bytes rfl (by simp)) rfl ?_
    rintro _ _ ⟨rfl, rfl⟩
    refine o_st (st_call (vs := [_, _]) rfl (wRaw (by simp) (by simp))) rfl ?_
    rintro _ _ ⟨rfl, rfl⟩
    refine o_nil (sq_n (w_seq (w_region (?_))))
    refine o_ev (ev_move rfl) rfl ?_
    refine o_ev (ev_move rfl) rfl ?_
    refine o_st (st_call (vs := [_, _]) rfl (wByte kind (by simp))) rfl ?_
    rintro _ _ ⟨rfl, rfl⟩
    refine o_nil (sq_n (w_seq (w_region (?_))))
    refine o_ev (ev_move rfl) rfl ?_
    refine o_ev (ev_move rfl) rfl ?_
    refine o_ev (ev_len1 rfl) rfl ?_
    refine o_ev (ev_convL 18446744073709551616 rfl rfl rfl bl.length (by omega) (by omega)) rfl ?_
    refine o_st (st_call (vs := [_, _]) rfl (wUvarint bl.length (by omega) (by simp))) rfl ?_
    rintro _ _ ⟨rfl, rfl⟩
    refine o_nil (sq_n (w_seq (w_seq (w_region (?_)))))
    refine o_ev (ev_move rfl) rfl ?_
    refine o_ev (ev_len1 rfl) rfl ?_
    refine o_ev (ev_move rfl) rfl ?_
    refine o_nil (sq_n (w_block (?_)))
    refine w_loop (Nat × List Nat) (fun y => y.1 ≤ bl.length ∧ y.2 = [99, 110, 99, 100] ++ [kind] ++ uv bl.length ++ encAll (bl.take y.1)) (fun y => [(6, .pointer (some ⟨b1, 0, none⟩)), (27, s.val), (28, .int .i64 ((bl.length : Nat) : Int)), (29, .int .i64 ((y.1 : Nat) : Int))]) (fun y => Wr b1 y.2 :: H) (fun y => bl.length - y.1) ((0, [99, 110, 99, 100] ++ [kind] ++ uv bl.length)) ?_ ?_ ?_ ?_
    · (try dsimp only)
      exact ⟨Nat.zero_le _, by simp [encAll]⟩
    · rw [hlen]
      repeat (first | exact Sub.nil | refine Sub.cons rfl ?_)
    · (try dsimp only)
      (repeat (first | exact Ka | refine Kb ?_ | refine Kc ?_ | refine Kf ?_ | refine Kd ?_ | refine Ke ?_ | refine Kh ?_ | refine Kg rfl ?_ | refine Ki ?_ | refine Kj ?_ | refine Kk ?_ | refine Kl ?_ | refine Km ?_ | refine Kn ?_ | refine Ko ?_))
    · rintro ⟨i, zs⟩ ⟨hi, hI⟩
      (try dsimp only at *)
      have hzl : zs.length ≤ 10000000000 := by
        have := encAll_le bl i
        rw [hI]; simp only [List.length_append, List.length_cons, List.length_nil]; omega
      refine w_seq (w_region (?_))
      skip
      refine o_ev (ev_lss rfl rfl) rfl ?_
      refine o_nil (sq_n (w_seq (?_)))
      refine w_if rfl (fun h2 => ?_) (fun h2 => ?_)
      · skip
        try simp only [Za, Zb, Zc, Zd, Ze, Zf, Zg, Zh] at h2
        obtain ⟨p, hp⟩ : ∃ p, l[i]? = some p := ⟨_, List.getElem?_eq_getElem (by omega)⟩
        obtain ⟨q, hq⟩ : ∃ q, bl[i]? = some q := ⟨_, List.getElem?_eq_getElem (by omega)⟩
        obtain ⟨hpq, hS⟩ := hbod i p q hp hq
        obtain ⟨ht1, ht2, ht3⟩ := ht q (List.mem_of_getElem? hq)
        have hbl := body_le (List.mem_of_getElem? hq)
        have hel : (encB q.1 q.2).length ≤ 10000000000 := by
          have hu := uv_len10 (n := q.2.length) (by omega)
          simp only [encB, encP, List.length_append, List.length_cons, List.length_nil, w32_len]; omega
        refine w_skip (sq_n (w_seq (w_block (w_seq (w_region (?_))))))
        refine o_ev (ev_indexAddr rfl rfl _ rfl (by omega)) rfl ?_
        refine o_ev (ev_loadS_el rfl (by rfl) (by rfl) _ (by first | assumption | rfl | exact List.getElem?_eq_getElem (by omega))) rfl ?_
        refine o_st (st_alloc) rfl ?_
        rintro _ _ ⟨b1, rfl, rfl⟩
        refine o_st (st_store rfl rfl rfl) rfl ?_
        rintro _ _ ⟨rfl, rfl⟩
        refine o_nil (sq_n (w_seq (w_region (?_))))
        refine o_ev (ev_fieldAddr rfl) rfl ?_
        refine o_ev (ev_load rfl) rfl ?_
        refine o_ev (ev_fieldAddr rfl) rfl ?_
        refine o_ev (ev_load rfl) rfl ?_
        refine o_st (st_call (vs := [_, _]) rfl (fEncode p.1 (by omega) (by omega) ht3 (by omega))) rfl ?_
        rintro _ _ ⟨s2, rfl, rfl⟩
        rw [hpq]
        · skip
          refine o_ev (ev_move rfl) rfl ?_
          refine o_ev (ev_extract1 rfl rfl) rfl ?_
          refine o_ev (ev_extract1 rfl rfl) rfl ?_
          refine o_ev (ev_assign rfl) rfl ?_
          refine o_ev (ev_assign rfl) rfl ?_
          refine o_nil (sq_n (w_seq (w_seq (w_region (?_)))))
          refine o_ev (ev_move rfl) rfl ?_
          refine o_ev (ev_neq_nil_nil rfl) rfl ?_
          refine o_nil (sq_n (?_))
          refine w_if_false rfl (w_skip (sq_n (w_region (?_))))
          refine o_ev (ev_move rfl) rfl ?_
          refine o_ev (ev_move rfl) rfl ?_
          refine o_st (st_call (vs := [_, _]) rfl (wRaw (by omega) (by omega))) rfl ?_
          rintro _ _ ⟨rfl, rfl⟩
          refine o_nil (bk_n (sq_n (w_region (?_))))
          refine o_ev (ev_add rfl rfl (by omega)) rfl ?_
          refine o_ev (ev_move rfl) rfl ?_
          refine o_nil (?_)
          skip
          refine lq_n ((i + 1, zs ++ encB q.1 q.2)) ?_ ?_ ?_ ?_
          · (try dsimp only)
            refine ⟨by omega, ?_⟩
            rw [take_succ_get hq, encAll_snoc, hI]; simp
          · (try dsimp only)
            omega
          · repeat (first | exact Sub.nil | refine Sub.cons rfl ?_)
          · (try dsimp only)
            (repeat (first | exact Ka | refine Kb ?_ | refine Kc ?_ | refine Kf ?_ | refine Kd ?_ | refine Ke ?_ | refine Kh ?_ | refine Kg rfl ?_ | refine Ki ?_ | refine Kj ?_ | refine Kk ?_ | refine Kl ?_ | refine Km ?_ | refine Kn ?_ | refine Ko ?_))
      · skip
        try simp only [Za, Zb, Zc, Zd, Ze, Zf, Zg, Zh] at h2
        obtain rfl : i = bl.length := by omega
        rw [List.take_length] at hI
        have hI' : zs = imgQ kind bl := hI
        subst hI'
        refine w_exit (sq_e (lq_e (bk_h (sq_n (w_seq (w_region (?_)))))))
        refine o_ev (ev_move rfl) rfl ?_
        refine o_ev (ev_move rfl) rfl ?_
        refine o_st (st_call (vs := [_]) rfl (wBytes (by omega))) rfl ?_
        rintro _ _ ⟨s2, rfl, rfl⟩
        refine o_st (st_call (vs := [_]) rfl (sealPr (by omega) (imgQ_lt hk fun q hq => (ht q hq).2))) rfl ?_
        rintro _ _ ⟨rfl, rfl⟩
        refine o_st (st_call (vs := [_, _]) rfl (wWord32 (sealS (imgQ kind bl)) (by omega))) rfl ?_
        rintro _ _ ⟨rfl, rfl⟩
        refine o_nil (sq_n (w_seq (w_region (?_))))
        refine o_ev (ev_move rfl) rfl ?_
        refine o_st (st_call (vs := [_]) rfl (wBytes (xs := imgP kind bl) (by simp only [imgP, List.length_append, w32_len]; omega))) rfl ?_
        rintro _ _ ⟨s3, rfl, rfl⟩
        refine o_ev (ev_assign rfl) rfl ?_
        refine o_ev (ev_assign rfl) rfl ?_
        refine o_nil (sq_n (w_ret (?_)))
        refine res_intro (vs := [_, _]) Tryz.results40 (.inr rfl) (.cons (.tmp rfl) (.cons (.tmp rfl) (.nil))) ?_
        exact ⟨_, by (repeat (first | exact Ka | refine Kb ?_ | refine Kc ?_ | refine Kf ?_ | refine Kd ?_ | refine Ke ?_ | refine Kh ?_ | refine Kg rfl ?_ | refine Ki ?_ | refine Kj ?_ | refine Kk ?_ | refine Kl ?_ | refine Km ?_ | refine Kn ?_ | refine Ko ?_)), s3, rfl, rfl⟩
end Go.Sx
