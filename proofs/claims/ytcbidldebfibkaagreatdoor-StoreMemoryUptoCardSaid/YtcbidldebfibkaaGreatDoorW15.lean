import Derived.Test.YtcbidldebfibkaaGreatDoorW13
set_option linter.unusedVariables false
set_option linter.unusedSimpArgs false
set_option linter.unusedSectionVars false
set_option linter.unnecessarySimpa false
namespace Go.Sx
open Go Go.Proofs
set_option maxRecDepth 100000
set_option linter.unusedSimpArgs false
set_option linter.unusedVariables false

def wordOf : List Nat → Nat
  | a :: b :: c :: d :: _ => a + 256 * b + 65536 * c + 16777216 * d
  | _ => 0
theorem or_add {v a m : Nat} (hv : v < 2 ^ m) : v ||| (a * 2 ^ m) = v + a * 2 ^ m := by
  rw [Nat.or_comm, ← Nat.shiftLeft_eq, ← Nat.shiftLeft_add_eq_or_of_lt hv, Nat.shiftLeft_eq]; omega
theorem or_add8 {v a : Nat} (hv : v < 256) (ha : a < 256) : v ||| (a * 2 ^ 8 % 4294967296) = v + a * 256 := by
  rw [Nat.mod_eq_of_lt (by omega), or_add (m := 8) (by omega)]
theorem or_add16 {v a : Nat} (hv : v < 65536) (ha : a < 256) : v ||| (a * 2 ^ 16 % 4294967296) = v + a * 65536 := by
  rw [Nat.mod_eq_of_lt (by omega), or_add (m := 16) (by omega)]
theorem or_add24 {v a : Nat} (hv : v < 16777216) (ha : a < 256) : v ||| (a * 2 ^ 24 % 4294967296) = v + a * 16777216 := by
  rw [Nat.mod_eq_of_lt (by omega), or_add (m := 24) (by omega)]
theorem wordOf_get {l : List Nat} {a b c d : Nat} (h0 : l[0]? = some a) (h1 : l[1]? = some b) (h2 : l[2]? = some c) (h3 : l[3]? = some d) : wordOf l = a + 256 * b + 65536 * c + 16777216 * d := by
  match l, h0, h1, h2, h3 with
  | x :: y :: z :: w :: r, h0, h1, h2, h3 =>
    simp at h0 h1 h2 h3
    subst h0; subst h1; subst h2; subst h3; rfl

theorem wordPr {G : Base} {H : Heap} {s : SV} {xs : List Nat} [Sl H s eB xs] (hn : 4 ≤ xs.length) (hb : ∀ x ∈ xs, x < 256) : SC G Tryz.prog 80 [s.val] H (fun v H' => v = .int .u32 ((wordOf xs : Nat) : Int) ∧ H' = H) := by
  obtain ⟨a, ha⟩ : ∃ x, xs[0]? = some x := ⟨_, List.getElem?_eq_getElem (by omega)⟩
  obtain ⟨b, hbb⟩ : ∃ x, xs[1]? = some x := ⟨_, List.getElem?_eq_getElem (by omega)⟩
  obtain ⟨c, hc⟩ : ∃ x, xs[2]? = some x := ⟨_, List.getElem?_eq_getElem (by omega)⟩
  obtain ⟨d, hd⟩ : ∃ x, xs[3]? = some x := ⟨_, List.getElem?_eq_getElem (by omega)⟩
  have ha2 := hb a (List.mem_of_getElem? ha)
  have hb2 := hb b (List.mem_of_getElem? hbb)
  have hc2 := hb c (List.mem_of_getElem? hc)
  have hd2 := hb d (List.mem_of_getElem? hd)
  refine SC.out (sc_walk Tryz.func80 rfl Tryz.ntmps80 (by kernel_rfl) (Nat.le_of_ble_eq_true rfl) ?_)
  refine w_seq (w_region (?_))
  refine o_ev (ev_assign rfl) rfl ?_
  refine o_nil (sq_n (w_seq (?_)))
  refine w_still Tryz_mixed ?_
  refine an_first 0 rfl rfl (by kernel_rfl) rfl (qv_at (ev_move rfl)) ?_
  refine an_first 1 rfl rfl (by kernel_rfl) rfl (qv_at (ev_indexAddr rfl rfl 0 rfl (by omega))) ?_
  refine an_first 2 rfl rfl (by kernel_rfl) rfl (qv_at (ev_load_el rfl (by rfl) (by rfl) a ha)) ?_
  refine an_first 3 rfl rfl (by kernel_rfl) rfl (qv_at ((by first | exact ev_convL 4294967296 rfl rfl rfl _ rfl (by omega) | exact ev_convM 4294967296 rfl rfl rfl _ rfl))) ?_
  refine an_first 4 rfl rfl (by kernel_rfl) rfl (qv_at (ev_move rfl)) ?_
  refine an_first 5 rfl rfl (by kernel_rfl) rfl (qv_at (ev_indexAddr rfl rfl 1 rfl (by omega))) ?_
  refine an_first 6 rfl rfl (by kernel_rfl) rfl (qv_at (ev_load_el rfl (by rfl) (by rfl) b hbb)) ?_
  refine an_first 7 rfl rfl (by kernel_rfl) rfl (qv_at ((by first | exact ev_convL 4294967296 rfl rfl rfl _ rfl (by omega) | exact ev_convM 4294967296 rfl rfl rfl _ rfl))) ?_
  refine an_first 8 rfl rfl (by kernel_rfl) rfl (qv_at (ev_shlM 4294967296 rfl rfl rfl rfl _ 8 rfl rfl)) ?_
  refine an_first 9 rfl rfl (by kernel_rfl) rfl (qv_at (ev_orM 4294967296 rfl rfl rfl rfl _ _ rfl rfl (by first | decide | omega) (by first | decide | omega))) ?_
  rw [or_add8 ha2 hb2]
  refine an_first 10 rfl rfl (by kernel_rfl) rfl (qv_at (ev_move rfl)) ?_
  refine an_first 11 rfl rfl (by kernel_rfl) rfl (qv_at (ev_indexAddr rfl rfl 2 rfl (by omega))) ?_
  refine an_first 12 rfl rfl (by kernel_rfl) rfl (qv_at (ev_load_el rfl (by rfl) (by rfl) c hc)) ?_
  refine an_first 13 rfl rfl (by kernel_rfl) rfl (qv_at ((by first | exact ev_convL 4294967296 rfl rfl rfl _ rfl (by omega) | exact ev_convM 4294967296 rfl rfl rfl _ rfl))) ?_
  refine an_first 14 rfl rfl (by kernel_rfl) rfl (qv_at (ev_shlM 4294967296 rfl rfl rfl rfl _ 16 rfl rfl)) ?_
  refine an_first 15 rfl rfl (by kernel_rfl) rfl (qv_at (ev_orM 4294967296 rfl rfl rfl rfl _ _ rfl rfl (by first | decide | omega) (by first | decide | omega))) ?_
  rw [or_add16 (by omega) hc2]
  refine an_first 16 rfl rfl (by kernel_rfl) rfl (qv_at (ev_move rfl)) ?_
  refine an_first 17 rfl rfl (by kernel_rfl) rfl (qv_at (ev_indexAddr rfl rfl 3 rfl (by omega))) ?_
  refine an_first 18 rfl rfl (by kernel_rfl) rfl (qv_at (ev_load_el rfl (by rfl) (by rfl) d hd)) ?_
  refine an_first 19 rfl rfl (by kernel_rfl) rfl (qv_at ((by first | exact ev_convL 4294967296 rfl rfl rfl _ rfl (by omega) | exact ev_convM 4294967296 rfl rfl rfl _ rfl))) ?_
  refine an_first 20 rfl rfl (by kernel_rfl) rfl (qv_at (ev_shlM 4294967296 rfl rfl rfl rfl _ 24 rfl rfl)) ?_
  refine an_first 21 rfl rfl (by kernel_rfl) rfl (qv_at (ev_orM 4294967296 rfl rfl rfl rfl _ _ rfl rfl (by first | decide | omega) (by first | decide | omega))) ?_
  rw [or_add24 (by omega) hd2]
  refine an_first 22 rfl rfl (by kernel_rfl) rfl (qv_at (ev_assign rfl)) ?_
  refine an_nil (by kernel_rfl) (fun _ _ => rfl) (sq_n (w_ret (?_)))
  refine res_intro (vs := [_]) Tryz.results80 (.inr rfl) (.cons (.tmp rfl) (.nil)) ?_
  exact ⟨_, Ka, by rw [wordOf_get ha hbb hc hd, show a + 256 * b + 65536 * c + 16777216 * d = a + b * 256 + c * 65536 + d * 16777216 by omega]; rfl, rfl⟩

/-- The block with which the bytes begin: where its body begins and ends. -/
def rdBlk (l : List Nat) : Option (Nat × Nat) :=
  match l with
  | [] => none
  | tag :: _ => if tag = 0 then none else
    match rdUv 0 ((l.take (min l.length 11)).drop 1) with
    | .error _ => none
    | .ok (n, m) => if l.length - (1 + m) < 4 ∨ l.length - (1 + m) - 4 < n then none else
      if wordOf (l.drop (1 + m + n)) = zipS (l.take (1 + m + n)) then some (1 + m, 1 + m + n) else none

theorem fLook {G : Base} {H : Heap} {s : SV} {xs : List Nat} [hg : Glb G H] [Tab H 26 zipT] [Sl H s eB xs] (hn : xs.length ≤ 1000000000000) (hb : ∀ x ∈ xs, x < 256) : SC G Tryz.prog 119 [s.val] H (fun v H' =>
    (rdBlk xs = none ∧ H' = H ∧ ∃ e, v = .tuple #[.int .i64 0, .int .i64 0, .int .i64 0, G.err e]) ∨ (∃ f t, rdBlk xs = some (f, t) ∧ f ≤ t ∧ t + 4 ≤ xs.length ∧ H' = H ∧ v = .tuple #[.int .i64 ((f : Nat) : Int), .int .i64 ((t : Nat) : Int), .int .i64 ((t + 4 : Nat) : Int), .nilIface])) := by
  refine SC.out (sc_walk Tryz.func119 rfl Tryz.ntmps119 (by kernel_rfl) (Nat.le_of_ble_eq_true rfl) ?_)
  refine w_seq (w_region (?_))
  refine o_ev (ev_assign rfl) rfl ?_
  refine o_ev (ev_assign rfl) rfl ?_
  refine o_ev (ev_assign rfl) rfl ?_
  refine o_ev (ev_assign rfl) rfl ?_
  refine o_nil (sq_n (w_seq (w_seq (w_region (?_)))))
  refine o_ev (ev_move rfl) rfl ?_
  refine o_ev (ev_len1 rfl) rfl ?_
  refine o_ev (ev_eql rfl rfl) rfl ?_
  refine o_nil (sq_n (?_))
  refine w_if rfl (fun h1 => ?_) (fun h1 => ?_)
  · skip
    try simp only [Za, Zb, Zc, Zd, Ze, Zf, Zg, Zh] at h1
    obtain rfl : xs = [] := List.length_eq_zero_iff.1 (by omega)
    refine w_seq (?_)
    refine w_still Tryz_mixed ?_
    refine an_first 0 rfl rfl (by kernel_rfl) rfl (qv_at (ev_load rfl)) ?_
    refine an_first 1 rfl rfl (by kernel_rfl) rfl (qv_at (ev_assign rfl)) ?_
    refine an_first 2 rfl rfl (by kernel_rfl) rfl (qv_at (ev_assign rfl)) ?_
    refine an_first 3 rfl rfl (by kernel_rfl) rfl (qv_at (ev_assign rfl)) ?_
    refine an_first 4 rfl rfl (by kernel_rfl) rfl (qv_at (ev_assign rfl)) ?_
    refine an_nil (by kernel_rfl) (fun _ _ => rfl) (sq_n (w_ret (sq_r (?_))))
    refine res_intro (vs := [_, _, _, _]) Tryz.results119 (.inr rfl) (.cons (.tmp rfl) (.cons (.tmp rfl) (.cons (.tmp rfl) (.cons (.tmp rfl) (.nil))))) ?_
    exact ⟨_, by (repeat (first | exact Ka | refine Kb ?_ | refine Kc ?_ | refine Kf ?_ | refine Kd ?_ | refine Ke ?_ | refine Kh ?_ | refine Kg rfl ?_ | refine Ki ?_ | refine Kj ?_ | refine Kk ?_ | refine Kl ?_ | refine Km ?_ | refine Kn ?_ | refine Ko ?_)), .inl ⟨rfl, rfl, _, rfl⟩⟩
  · skip
    try simp only [Za, Zb, Zc, Zd, Ze, Zf, Zg, Zh] at h1
    obtain ⟨x, r, hx⟩ : ∃ x r, xs = x :: r := by
      cases xs with
      | nil => simp at h1
      | cons x r => exact ⟨x, r, rfl⟩
    have hx0 : xs[0]? = some x := by rw [hx]; rfl
    have hxb := hb x (List.mem_of_getElem? hx0)
    refine w_skip (sq_n (w_seq (w_seq (w_region (?_)))))
    refine o_ev (ev_move rfl) rfl ?_
    refine o_ev (ev_indexAddr rfl rfl 0 rfl (by omega)) rfl ?_
    refine o_ev (ev_load_el rfl (by rfl) (by rfl) x hx0) rfl ?_
    refine o_ev (ev_eql rfl rfl) rfl ?_
    refine o_nil (sq_n (?_))
    refine w_if rfl (fun h2 => ?_) (fun h2 => ?_)
    · skip
      try simp only [Za, Zb, Zc, Zd, Ze, Zf, Zg, Zh] at h2
      obtain rfl : x = 0 := by omega
      have e : rdBlk xs = none := by rw [hx, rdBlk, if_pos rfl]
      refine w_seq (?_)
      refine w_still Tryz_mixed ?_
      refine an_first 0 rfl rfl (by kernel_rfl) rfl (qv_at (ev_load rfl)) ?_
      refine an_first 1 rfl rfl (by kernel_rfl) rfl (qv_at (ev_assign rfl)) ?_
      refine an_first 2 rfl rfl (by kernel_rfl) rfl (qv_at (ev_assign rfl)) ?_
      refine an_first 3 rfl rfl (by kernel_rfl) rfl (qv_at (ev_assign rfl)) ?_
      refine an_first 4 rfl rfl (by kernel_rfl) rfl (qv_at (ev_assign rfl)) ?_
      refine an_nil (by kernel_rfl) (fun _ _ => rfl) (sq_n (w_ret (sq_r (?_))))
      refine res_intro (vs := [_, _, _, _]) Tryz.results119 (.inr rfl) (.cons (.tmp rfl) (.cons (.tmp rfl) (.cons (.tmp rfl) (.cons (.tmp rfl) (.nil))))) ?_
      exact ⟨_, by (repeat (first | exact Ka | refine Kb ?_ | refine Kc ?_ | refine Kf ?_ | refine Kd ?_ | refine Ke ?_ | refine Kh ?_ | refine Kg rfl ?_ | refine Ki ?_ | refine Kj ?_ | refine Kk ?_ | refine Kl ?_ | refine Km ?_ | refine Kn ?_ | refine Ko ?_)), .inl ⟨e, rfl, _, rfl⟩⟩
    · skip
      try simp only [Za, Zb, Zc, Zd, Ze, Zf, Zg, Zh] at h2
      have hx0 : ¬ x = 0 := by omega
      refine w_skip (sq_n (w_seq (w_region (?_))))
      refine o_ev (ev_move rfl) rfl ?_
      refine o_ev (ev_move rfl) rfl ?_
      refine o_ev (ev_len1 rfl) rfl ?_
      refine o_ev (ev_min rfl rfl) rfl ?_
      refine o_slice H rfl (1) (min xs.length 11) ⟨_, _, rfl, (by first | rfl | omega)⟩ ⟨_, _, rfl, (by first | rfl | omega)⟩ (by omega) (by first | omega | (simp; omega)) rfl ?_
      intro s1 i1
      refine o_st (st_call (vs := [_]) rfl (newReader (by rw [List.length_drop, List.length_take]; omega))) rfl ?_
      rintro _ _ ⟨b1, rfl, rfl⟩
      refine o_ev (ev_assign rfl) rfl ?_
      refine o_nil (sq_n (w_seq (w_region (?_))))
      refine o_ev (ev_move rfl) rfl ?_
      refine o_st (st_call (vs := [_]) rfl (rUvarint (Nat.zero_le _) (by rw [List.length_drop, List.length_take]; omega) (fun y hy => hb y (List.mem_of_mem_take (List.mem_of_mem_drop hy))))) rfl ?_
      rintro v1 H1 hK
      rw [List.drop_zero] at hK
      rcases hK with ⟨e, he, rfl, rfl⟩ | ⟨n, m, he, rfl, rfl⟩
      · skip
        have e2 : rdBlk xs = none := by rw [hx, rdBlk, if_neg hx0, ← hx, he]
        refine o_ev (ev_move rfl) rfl ?_
        refine o_ev (ev_extract1 rfl rfl) rfl ?_
        refine o_ev (ev_extract1 rfl rfl) rfl ?_
        refine o_ev (ev_assign rfl) rfl ?_
        refine o_ev (ev_assign rfl) rfl ?_
        refine o_nil (sq_n (w_seq (w_seq (w_region (?_)))))
        refine o_ev (ev_move rfl) rfl ?_
        refine o_ev (ev_neq_nil_val rfl) rfl ?_
        refine o_nil (sq_n (?_))
        refine w_if_true rfl (w_seq (w_region (?_)))
        refine o_ev (ev_move rfl) rfl ?_
        refine o_ev (ev_assign rfl) rfl ?_
        refine o_ev (ev_assign rfl) rfl ?_
        refine o_ev (ev_assign rfl) rfl ?_
        refine o_ev (ev_assign rfl) rfl ?_
        refine o_nil (sq_n (w_ret (sq_r (?_))))
        refine res_intro (vs := [_, _, _, _]) Tryz.results119 (.inr rfl) (.cons (.tmp rfl) (.cons (.tmp rfl) (.cons (.tmp rfl) (.cons (.tmp rfl) (.nil))))) ?_
        exact ⟨_, by (repeat (first | exact Ka | refine Kb ?_ | refine Kc ?_ | refine Kf ?_ | refine Kd ?_ | refine Ke ?_ | refine Kh ?_ | refine Kg rfl ?_ | refine Ki ?_ | refine Kj ?_ | refine Kk ?_ | refine Kl ?_ | refine Km ?_ | refine Kn ?_ | refine Ko ?_)), .inl ⟨e2, rfl, _, rfl⟩⟩
      · skip
        obtain ⟨p1, p2, p3, p4, p5, p6⟩ := rdUv_ok _ 0 n m (fun y hy => hb y (List.mem_of_mem_take (List.mem_of_mem_drop hy))) (by omega) he
        rw [List.length_drop, List.length_take] at p4
        have e2 : rdBlk xs = if xs.length - (1 + m) < 4 ∨ xs.length - (1 + m) - 4 < n then none else if wordOf (xs.drop (1 + m + n)) = zipS (xs.take (1 + m + n)) then some (1 + m, 1 + m + n) else none := by rw [hx, rdBlk, if_neg hx0, ← hx, he]
        refine o_ev (ev_move rfl) rfl ?_
        refine o_ev (ev_extract1 rfl rfl) rfl ?_
        refine o_ev (ev_extract1 rfl rfl) rfl ?_
        refine o_ev (ev_assign rfl) rfl ?_
        refine o_ev (ev_assign rfl) rfl ?_
        refine o_nil (sq_n (w_seq (w_seq (w_region (?_)))))
        refine o_ev (ev_move rfl) rfl ?_
        refine o_ev (ev_neq_nil_nil rfl) rfl ?_
        refine o_nil (sq_n (?_))
        refine w_if_false rfl (w_skip (sq_n (w_seq (w_region (?_)))))
        refine o_ev (ev_move rfl) rfl ?_
        refine o_ev (ev_nilCheck rfl) rfl ?_
        refine o_ev (ev_fieldAddr rfl) rfl ?_
        refine o_st (st_call (vs := [_]) rfl (spanAt)) rfl ?_
        rintro _ _ ⟨rfl, rfl⟩
        refine o_ev (ev_addE rfl rfl (((1 + m : Nat)) : Int) (by rw [IntKind.wrap_i64]; omega)) rfl ?_
        refine o_ev (ev_assign rfl) rfl ?_
        refine o_nil (sq_n (w_seq (w_seq (w_region (?_)))))
        refine o_ev (ev_move rfl) rfl ?_
        refine o_ev (ev_len1 rfl) rfl ?_
        refine o_ev (ev_move rfl) rfl ?_
        refine o_ev (ev_sub rfl rfl (by omega)) rfl ?_
        refine o_ev (ev_assign rfl) rfl ?_
        refine o_nil (sq_n (w_seq (w_region (?_))))
        refine o_ev (ev_move rfl) rfl ?_
        refine o_ev (ev_lss rfl rfl) rfl ?_
        refine o_split (ev_move rfl) rfl (fun h3 => ?_) (fun h3 => ?_)
        · skip
          try simp only [Za, Zb, Zc, Zd, Ze, Zf, Zg, Zh] at h3
          refine o_off rfl rfl rfl ?_
          refine o_off rfl rfl rfl ?_
          refine o_off rfl rfl rfl ?_
          refine o_off rfl rfl rfl ?_
          refine o_off rfl rfl rfl ?_
          refine o_ev (ev_pick_t rfl rfl) rfl ?_
          refine o_nil (sq_n (?_))
          refine w_if_true rfl (w_seq (?_))
          refine w_still Tryz_mixed ?_
          refine an_first 0 rfl rfl (by kernel_rfl) rfl (qv_at (ev_load rfl)) ?_
          refine an_first 1 rfl rfl (by kernel_rfl) rfl (qv_at (ev_assign rfl)) ?_
          refine an_first 2 rfl rfl (by kernel_rfl) rfl (qv_at (ev_assign rfl)) ?_
          refine an_first 3 rfl rfl (by kernel_rfl) rfl (qv_at (ev_assign rfl)) ?_
          refine an_first 4 rfl rfl (by kernel_rfl) rfl (qv_at (ev_assign rfl)) ?_
          refine an_nil (by kernel_rfl) (fun _ _ => rfl) (sq_n (w_ret (sq_r (?_))))
          refine res_intro (vs := [_, _, _, _]) Tryz.results119 (.inr rfl) (.cons (.tmp rfl) (.cons (.tmp rfl) (.cons (.tmp rfl) (.cons (.tmp rfl) (.nil))))) ?_
          exact ⟨_, by (repeat (first | exact Ka | refine Kb ?_ | refine Kc ?_ | refine Kf ?_ | refine Kd ?_ | refine Ke ?_ | refine Kh ?_ | refine Kg rfl ?_ | refine Ki ?_ | refine Kj ?_ | refine Kk ?_ | refine Kl ?_ | refine Km ?_ | refine Kn ?_ | refine Ko ?_)), .inl ⟨by rw [e2, if_pos (by omega)], rfl, _, rfl⟩⟩
        · skip
          try simp only [Za, Zb, Zc, Zd, Ze, Zf, Zg, Zh] at h3
          refine o_on_ev rfl rfl rfl (ev_move rfl) ?_
          refine o_on_ev rfl rfl rfl (ev_move rfl) ?_
          refine o_on_ev rfl rfl rfl (ev_sub rfl rfl (by omega)) ?_
          refine o_on_ev rfl rfl rfl (ev_convL 18446744073709551616 rfl rfl rfl (xs.length - (1 + m) - 4) (by omega) (by omega)) ?_
          refine o_on_ev rfl rfl rfl (ev_gtr rfl rfl) ?_
          refine o_ev (ev_pick_f rfl rfl) rfl ?_
          refine o_nil (sq_n (?_))
          refine w_if rfl (fun h4 => ?_) (fun h4 => ?_)
          · skip
            try simp only [Za, Zb, Zc, Zd, Ze, Zf, Zg, Zh] at h4
            refine w_seq (?_)
            refine w_still Tryz_mixed ?_
            refine an_first 0 rfl rfl (by kernel_rfl) rfl (qv_at (ev_load rfl)) ?_
            refine an_first 1 rfl rfl (by kernel_rfl) rfl (qv_at (ev_assign rfl)) ?_
            refine an_first 2 rfl rfl (by kernel_rfl) rfl (qv_at (ev_assign rfl)) ?_
            refine an_first 3 rfl rfl (by kernel_rfl) rfl (qv_at (ev_assign rfl)) ?_
            refine an_first 4 rfl rfl (by kernel_rfl) rfl (qv_at (ev_assign rfl)) ?_
            refine an_nil (by kernel_rfl) (fun _ _ => rfl) (sq_n (w_ret (sq_r (?_))))
            refine res_intro (vs := [_, _, _, _]) Tryz.results119 (.inr rfl) (.cons (.tmp rfl) (.cons (.tmp rfl) (.cons (.tmp rfl) (.cons (.tmp rfl) (.nil))))) ?_
            exact ⟨_, by (repeat (first | exact Ka | refine Kb ?_ | refine Kc ?_ | refine Kf ?_ | refine Kd ?_ | refine Ke ?_ | refine Kh ?_ | refine Kg rfl ?_ | refine Ki ?_ | refine Kj ?_ | refine Kk ?_ | refine Kl ?_ | refine Km ?_ | refine Kn ?_ | refine Ko ?_)), .inl ⟨by rw [e2, if_pos (by omega)], rfl, _, rfl⟩⟩
          · skip
            try simp only [Za, Zb, Zc, Zd, Ze, Zf, Zg, Zh] at h4
            refine w_skip (sq_n (w_seq (w_region (?_))))
            rw [if_neg (by omega)] at e2
            refine o_ev (ev_move rfl) rfl ?_
            refine o_ev (ev_move rfl) rfl ?_
            refine o_ev (ev_conv64 rfl (by omega)) rfl ?_
            refine o_ev (ev_addE rfl rfl (((1 + m + n : Nat)) : Int) (by rw [IntKind.wrap_i64]; omega)) rfl ?_
            refine o_ev (ev_assign rfl) rfl ?_
            refine o_nil (sq_n (w_seq (w_seq (?_))))
            refine w_still Tryz_mixed ?_
            have hc1 : Sl H (s.cut 1 (1 + m + n) xs.length) eB ((xs.take xs.length).drop (1 + m + n)) := Sl.cut (e := eB) inferInstance (by omega) (by omega)
            rw [List.take_length] at hc1
            have hc2 : Sl H (s.cut 1 0 (1 + m + n)) eB ((xs.take (1 + m + n)).drop 0) := Sl.cut (e := eB) inferInstance (by omega) (by omega)
            rw [List.drop_zero] at hc2
            refine an_first 0 rfl rfl (by kernel_rfl) rfl (qv_at (ev_move rfl)) ?_
            refine an_first 1 rfl rfl (by kernel_rfl) rfl (qv_at (ev_move rfl)) ?_
            refine an_first 2 rfl rfl (by kernel_rfl) rfl (qv_at (ev_slice1 rfl (by rfl) (1 + m + n) xs.length ⟨_, _, rfl, rfl⟩ rfl (by omega) (by omega))) ?_
            refine an_first 3 rfl rfl (by kernel_rfl) rfl (qv_call (vs := [_]) rfl (wordPr (by rw [List.length_drop]; omega) (fun y hy => hb y (List.mem_of_mem_drop hy)))) ?_
            refine an_first 4 rfl rfl (by kernel_rfl) rfl (qv_at (ev_move rfl)) ?_
            refine an_first 5 rfl rfl (by kernel_rfl) rfl (qv_at (ev_move rfl)) ?_
            refine an_first 6 rfl rfl (by kernel_rfl) rfl (qv_at (ev_slice1 rfl (by rfl) 0 (1 + m + n) rfl ⟨_, _, rfl, rfl⟩ (by omega) (by omega))) ?_
            refine an_first 7 rfl rfl (by kernel_rfl) rfl (qv_call (vs := [_]) rfl (zipPr (by rw [List.length_take]; omega) (fun y hy => hb y (List.mem_of_mem_take hy)))) ?_
            refine an_first 8 rfl rfl (by kernel_rfl) rfl (qv_at (ev_neq rfl rfl)) ?_
            refine an_nil (by kernel_rfl) (fun _ _ => rfl) (sq_n (?_))
            refine w_if rfl (fun h5 => ?_) (fun h5 => ?_)
            · skip
              try simp only [Za, Zb, Zc, Zd, Ze, Zf, Zg, Zh] at h5
              rw [if_neg (by omega)] at e2
              refine w_seq (?_)
              refine w_still Tryz_mixed ?_
              refine an_first 0 rfl rfl (by kernel_rfl) rfl (qv_at (ev_load rfl)) ?_
              refine an_first 1 rfl rfl (by kernel_rfl) rfl (qv_at (ev_assign rfl)) ?_
              refine an_first 2 rfl rfl (by kernel_rfl) rfl (qv_at (ev_assign rfl)) ?_
              refine an_first 3 rfl rfl (by kernel_rfl) rfl (qv_at (ev_assign rfl)) ?_
              refine an_first 4 rfl rfl (by kernel_rfl) rfl (qv_at (ev_assign rfl)) ?_
              refine an_nil (by kernel_rfl) (fun _ _ => rfl) (sq_n (w_ret (sq_r (?_))))
              refine res_intro (vs := [_, _, _, _]) Tryz.results119 (.inr rfl) (.cons (.tmp rfl) (.cons (.tmp rfl) (.cons (.tmp rfl) (.cons (.tmp rfl) (.nil))))) ?_
              exact ⟨_, by (repeat (first | exact Ka | refine Kb ?_ | refine Kc ?_ | refine Kf ?_ | refine Kd ?_ | refine Ke ?_ | refine Kh ?_ | refine Kg rfl ?_ | refine Ki ?_ | refine Kj ?_ | refine Kk ?_ | refine Kl ?_ | refine Km ?_ | refine Kn ?_ | refine Ko ?_)), .inl ⟨e2, rfl, _, rfl⟩⟩
            · skip
              try simp only [Za, Zb, Zc, Zd, Ze, Zf, Zg, Zh] at h5
              rw [if_pos (by omega)] at e2
              refine w_skip (sq_n (w_seq (w_region (?_))))
              refine o_ev (ev_move rfl) rfl ?_
              refine o_ev (ev_move rfl) rfl ?_
              refine o_ev (ev_move rfl) rfl ?_
              refine o_ev (ev_add rfl rfl (by omega)) rfl ?_
              refine o_ev (ev_assign rfl) rfl ?_
              refine o_ev (ev_assign rfl) rfl ?_
              refine o_ev (ev_assign rfl) rfl ?_
              refine o_ev (ev_assign rfl) rfl ?_
              refine o_nil (sq_n (w_ret (?_)))
              refine res_intro (vs := [_, _, _, _]) Tryz.results119 (.inr rfl) (.cons (.tmp rfl) (.cons (.tmp rfl) (.cons (.tmp rfl) (.cons (.tmp rfl) (.nil))))) ?_
              exact ⟨_, by (repeat (first | exact Ka | refine Kb ?_ | refine Kc ?_ | refine Kf ?_ | refine Kd ?_ | refine Ke ?_ | refine Kh ?_ | refine Kg rfl ?_ | refine Ki ?_ | refine Kj ?_ | refine Kk ?_ | refine Kl ?_ | refine Km ?_ | refine Kn ?_ | refine Ko ?_)), .inr ⟨_, _, e2, by omega, by omega, rfl, rfl⟩⟩
end Go.Sx
namespace Go.Sx
open Go Go.Proofs
set_option maxRecDepth 100000
set_option linter.unusedSimpArgs false
set_option linter.unusedVariables false

theorem fDecode {G : Base} {H : Heap} {s : SV} {xs : List Nat} [hg : Glb G H] [Tab H 26 zipT] [hs : Sl H s eB xs] (hn : xs.length ≤ 1000000000000) (hb : ∀ x ∈ xs, x < 256) : SC G Tryz.prog 83 [s.val] H (fun v H' =>
    (rdBlk xs = none ∧ H' = H ∧ ∃ e, v = .tuple #[.agg [.int .u8 0, .slice none 0 0].toArray, .int .i64 0, G.err e]) ∨ (∃ f t x, ∃ s' : SV, rdBlk xs = some (f, t) ∧ f ≤ t ∧ t + 4 ≤ xs.length ∧ xs[0]? = some x ∧ v = .tuple #[.agg [.int .u8 ((x : Nat) : Int), s'.val].toArray, .int .i64 ((t + 4 : Nat) : Int), .nilIface] ∧ H' = Row s' eB ((xs.take t).drop f) :: H)) := by
  refine SC.out (sc_walk Tryz.func83 rfl Tryz.ntmps83 (by kernel_rfl) (Nat.le_of_ble_eq_true rfl) ?_)
  refine w_seq (w_region (?_))
  refine o_st (st_alloc) rfl ?_
  rintro _ _ ⟨b1, rfl, rfl⟩
  refine o_ev (ev_assign rfl) rfl ?_
  refine o_ev (ev_assign rfl) rfl ?_
  refine o_nil (sq_n (w_seq (w_region (?_))))
  refine o_ev (ev_move rfl) rfl ?_
  refine o_st (st_call (vs := [_]) rfl (fLook hn hb)) rfl ?_
  rintro v1 H1 hK
  rcases hK with ⟨he, rfl, e, rfl⟩ | ⟨f, q, he, hft, htl, rfl, rfl⟩
  · skip
    refine o_ev (ev_move rfl) rfl ?_
    refine o_ev (ev_extract1 rfl rfl) rfl ?_
    refine o_ev (ev_extract1 rfl rfl) rfl ?_
    refine o_ev (ev_extract1 rfl rfl) rfl ?_
    refine o_ev (ev_extract1 rfl rfl) rfl ?_
    refine o_ev (ev_assign rfl) rfl ?_
    refine o_ev (ev_assign rfl) rfl ?_
    refine o_ev (ev_assign rfl) rfl ?_
    refine o_ev (ev_assign rfl) rfl ?_
    refine o_nil (sq_n (w_seq (w_seq (w_region (?_)))))
    refine o_ev (ev_move rfl) rfl ?_
    refine o_ev (ev_neq_nil_val rfl) rfl ?_
    refine o_nil (sq_n (?_))
    refine w_if_true rfl (w_seq (w_region (?_)))
    refine o_ev (ev_build (vs := []) rfl) rfl ?_
    refine o_ev (ev_move rfl) rfl ?_
    refine o_st (st_store rfl rfl rfl) rfl ?_
    rintro _ _ ⟨rfl, rfl⟩
    refine o_ev (ev_assign rfl) rfl ?_
    refine o_ev (ev_assign rfl) rfl ?_
    refine o_nil (sq_n (w_ret (sq_r (?_))))
    refine res_intro (vs := [_, _, _]) Tryz.results83 (.inr rfl) (.cons ((.cell rfl rfl)) (.cons (.tmp rfl) (.cons (.tmp rfl) (.nil)))) ?_
    exact ⟨_, by (repeat (first | exact Ka | refine Kb ?_ | refine Kc ?_ | refine Kf ?_ | refine Kd ?_ | refine Ke ?_ | refine Kh ?_ | refine Kg rfl ?_ | refine Ki ?_ | refine Kj ?_ | refine Kk ?_ | refine Kl ?_ | refine Km ?_ | refine Kn ?_ | refine Ko ?_)), .inl ⟨he, rfl, e, rfl⟩⟩
  · skip
    obtain ⟨x, hx⟩ : ∃ x, xs[0]? = some x := ⟨_, List.getElem?_eq_getElem (by omega)⟩
    have hc : Sl H (s.cut 1 f q) eB ((xs.take q).drop f) := Sl.cut (e := eB) hs (by omega) (by omega)
    refine o_ev (ev_move rfl) rfl ?_
    refine o_ev (ev_extract1 rfl rfl) rfl ?_
    refine o_ev (ev_extract1 rfl rfl) rfl ?_
    refine o_ev (ev_extract1 rfl rfl) rfl ?_
    refine o_ev (ev_extract1 rfl rfl) rfl ?_
    refine o_ev (ev_assign rfl) rfl ?_
    refine o_ev (ev_assign rfl) rfl ?_
    refine o_ev (ev_assign rfl) rfl ?_
    refine o_ev (ev_assign rfl) rfl ?_
    refine o_nil (sq_n (w_seq (w_seq (w_region (?_)))))
    refine o_ev (ev_move rfl) rfl ?_
    refine o_ev (ev_neq_nil_nil rfl) rfl ?_
    refine o_nil (sq_n (?_))
    refine w_if_false rfl (w_skip (sq_n (w_seq (?_))))
    refine w_draw Tryz_mixed (fun i => [7, 8, 11].contains i) (fun k H => (k = 1 → Sl H s eB xs) ∧ (k = 2 → Sl H s eB xs) ∧ (k = 6 → Sl H s eB xs)) ?_
    refine an_first 0 rfl rfl (by kernel_rfl) rfl (Qv.of_ev (fun H hH => ev_move rfl)) ?_
    refine an_first 1 rfl rfl (by kernel_rfl) rfl (Qv.of_ev (fun H hH => by have hN := hH.1 rfl; exact ev_indexAddr rfl rfl 0 rfl (by omega))) ?_
    refine an_first 2 rfl rfl (by kernel_rfl) rfl (Qv.of_ev (fun H hH => by have hN := hH.2.1 rfl; exact ev_load_el rfl (by rfl) (by rfl) x hx)) ?_
    refine an_first 3 rfl rfl (by kernel_rfl) rfl (Qv.of_ev (fun H hH => ev_move rfl)) ?_
    refine an_first 4 rfl rfl (by kernel_rfl) rfl (Qv.of_ev (fun H hH => ev_move rfl)) ?_
    refine an_first 5 rfl rfl (by kernel_rfl) rfl (Qv.of_ev (fun H hH => ev_move rfl)) ?_
    refine an_first 6 rfl rfl (by kernel_rfl) rfl (Qv.of_ev (fun H hH => by have hN := hH.2.2 rfl; exact ev_slice1 rfl (by rfl) f q ⟨_, _, rfl, rfl⟩ ⟨_, _, rfl, rfl⟩ (by omega) (by omega))) ?_
    refine an_first 10 rfl rfl (by kernel_rfl) rfl (Qv.of_ev (fun H hH => ev_move rfl)) ?_
    refine an_step 7 rfl (by kernel_rfl) rfl (fun k hk => ⟨fun hi => by subst hi; infer_instance, fun hi => by subst hi; infer_instance, fun hi => by subst hi; infer_instance⟩) (st_build1 eSV rfl rfl) ?_
    rintro _ _ ⟨s1, rfl, rfl⟩
    refine an_step 8 rfl (by kernel_rfl) rfl (fun k hk => ⟨fun hi => by subst hi; infer_instance, fun hi => by subst hi; infer_instance, fun hi => absurd hk (by subst hi; exact not_live (by kernel_rfl))⟩) (st_call (vs := [_]) rfl (concat1 (s := s.cut 1 f q) (by rw [List.length_drop, List.length_take]; omega))) ?_
    rintro _ _ ⟨s2, rfl, rfl⟩
    refine an_first 9 rfl rfl (by kernel_rfl) rfl (Qv.of_ev (fun H hH => ev_build (vs := [(0, _), (1, _)]) rfl)) ?_
    refine an_step 11 rfl (by kernel_rfl) rfl (fun k hk => ⟨fun hi => by subst hi; infer_instance, fun hi => by subst hi; infer_instance, fun hi => absurd hk (by subst hi; exact not_live (by kernel_rfl))⟩) (st_store rfl rfl rfl) ?_
    rintro _ _ ⟨rfl, rfl⟩
    refine an_first 12 rfl rfl (by kernel_rfl) rfl (Qv.of_ev (fun H hH => ev_assign rfl)) ?_
    refine an_first 13 rfl rfl (by kernel_rfl) rfl (Qv.of_ev (fun H hH => ev_assign rfl)) ?_
    refine an_nil (by kernel_rfl) (fun k hk => ⟨fun hi => absurd hk (by subst hi; exact not_live (by kernel_rfl)), fun hi => absurd hk (by subst hi; exact not_live (by kernel_rfl)), fun hi => absurd hk (by subst hi; exact not_live (by kernel_rfl))⟩) (sq_n (w_ret (?_)))
    refine res_intro (vs := [_, _, _]) Tryz.results83 (.inr rfl) (.cons ((.cell rfl rfl)) (.cons (.tmp rfl) (.cons (.tmp rfl) (.nil)))) ?_
    exact ⟨_, by (repeat (first | exact Ka | refine Kb ?_ | refine Kc ?_ | refine Kf ?_ | refine Kd ?_ | refine Ke ?_ | refine Kh ?_ | refine Kg rfl ?_ | refine Ki ?_ | refine Kj ?_ | refine Kk ?_ | refine Kl ?_ | refine Km ?_ | refine Kn ?_ | refine Ko ?_)), .inr ⟨f, q, x, s2, he, hft, htl, hx, rfl, rfl⟩⟩
end Go.Sx
