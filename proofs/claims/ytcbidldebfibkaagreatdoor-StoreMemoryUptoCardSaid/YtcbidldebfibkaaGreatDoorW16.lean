import Derived.Test.YtcbidldebfibkaaGreatDoorW15
set_option linter.unusedVariables false
set_option linter.unusedSimpArgs false
set_option linter.unusedSectionVars false
set_option linter.unnecessarySimpa false
namespace Go.Sx
open Go Go.Proofs
set_option maxRecDepth 100000
set_option linter.unusedSimpArgs false
set_option linter.unusedVariables false

def rdBlks : Nat → List Nat → Option (List (Nat × List Nat))
  | 0, l => if l.length = 0 then some [] else none
  | n + 1, l =>
    match rdBlk l with
    | none => none
    | some (f, t) =>
      match rdBlks n (l.drop (t + 4)) with
      | none => none
      | some r => some ((l.headD 0, (l.take t).drop f) :: r)
def rdImg (kind : Nat) (l : List Nat) : Option (List (Nat × List Nat)) :=
  if l.length < 10 then none else
  if wordOf (l.drop (l.length - 4)) = sealS (l.take (l.length - 4)) then
    if kind = 0 ∨ l.take 4 ≠ [99, 110, 99, 100] ∨ l[4]? ≠ some kind then none else
    match rdUv 0 (((l.take (l.length - 4)).drop 5).take (min ((l.take (l.length - 4)).drop 5).length 10)) with
    | .error _ => none
    | .ok (n, m) => rdBlks n (((l.take (l.length - 4)).drop 5).drop m)
  else none
def glueB (bl : List (Nat × List Nat)) : Option (List (Nat × List Nat)) → Option (List (Nat × List Nat))
  | none => none
  | some r => some (bl ++ r)
/-- What the blocks of a list hold, in memory of their own. -/
theorem headD_get {l : List Nat} {x : Nat} (h : l[0]? = some x) : l.headD 0 = x := by
  cases l with
  | nil => cases h
  | cons a l => simp at h; exact h

theorem Bods.snoc {F : Heap} {l : List (Nat × SV)} {bl : List (Nat × List Nat)} (h : Bods F l bl) (x : Nat) (s : SV) (body : List Nat) : Bods (Row s eB body :: F) (l ++ [(x, s)]) (bl ++ [(x, body)]) := by
  obtain ⟨h1, h2⟩ := h
  refine ⟨by simp [h1], fun i p q hp hq => ?_⟩
  by_cases hi : i < l.length
  · rw [List.getElem?_append_left hi] at hp
    rw [List.getElem?_append_left (by omega)] at hq
    obtain ⟨h3, h4⟩ := h2 i p q hp hq
    exact ⟨h3, inferInstance⟩
  · rw [List.getElem?_append_right (by omega)] at hp hq
    have hz : i - l.length = 0 := by
      have := (List.getElem?_eq_some_iff.1 hp).1
      simp at this; omega
    rw [hz] at hp
    rw [← h1, hz] at hq
    simp at hp hq
    subst hp; subst hq
    exact ⟨rfl, inferInstance⟩
theorem Bods.nil {F : Heap} : Bods F [] [] := ⟨rfl, fun i p q h => by simp at h⟩
theorem rdBlk_len {l : List Nat} {f t : Nat} (h : rdBlk l = some (f, t)) : 1 ≤ l.length := by
  cases l with
  | nil => cases h
  | cons a l => simp
def rowK (p : Nat × SV) (q : Nat × List Nat) : Hp := Row p.2 eB q.2
theorem fUnpackO {G : Base} {H : Heap} {s : SV} {xs : List Nat} [hg : Glb G H] [Tab H 26 zipT] [Tab H 24 sealT] [hs : Sl H s eB xs] (kind : Nat) (hk : kind < 256) (hn : xs.length ≤ 1000000000) (hb : ∀ x ∈ xs, x < 256) : SC G Tryz.prog 43 [.int .u8 ((kind : Nat) : Int), s.val] H (fun v H' =>
    (rdImg kind xs = none ∧ H' = H ∧ ∃ e, v = .tuple #[.slice none 0 0, G.err e]) ∨ (∃ bl l F, ∃ s' : SV, rdImg kind xs = some bl ∧ Bods F l bl ∧ F = (List.zipWith rowK l bl).reverse ∧ v = .tuple #[s'.val, .nilIface] ∧ H' = Row s' eK l :: Star F :: H)) := by
  refine SC.out (sc_walk Tryz.func43 rfl Tryz.ntmps43 (by kernel_rfl) (Nat.le_of_ble_eq_true rfl) ?_)
  refine w_seq (w_region (?_))
  refine o_ev (ev_assign rfl) rfl ?_
  refine o_ev (ev_assign rfl) rfl ?_
  refine o_nil (sq_n (w_seq (w_seq (w_region (?_)))))
  refine o_ev (ev_move rfl) rfl ?_
  refine o_ev (ev_len1 rfl) rfl ?_
  refine o_ev (ev_lss rfl rfl) rfl ?_
  refine o_nil (sq_n (?_))
  refine w_if rfl (fun h1 => ?_) (fun h1 => ?_)
  · skip
    try simp only [Za, Zb, Zc, Zd, Ze, Zf, Zg, Zh] at h1
    have e : rdImg kind xs = none := by rw [rdImg, if_pos (by omega)]
    refine w_seq (?_)
    refine w_still Tryz_mixed ?_
    refine an_first 0 rfl rfl (by kernel_rfl) rfl (qv_at (ev_load rfl)) ?_
    refine an_first 1 rfl rfl (by kernel_rfl) rfl (qv_at (ev_assign rfl)) ?_
    refine an_first 2 rfl rfl (by kernel_rfl) rfl (qv_at (ev_assign rfl)) ?_
    refine an_nil (by kernel_rfl) (fun _ _ => rfl) (sq_n (w_ret (sq_r (?_))))
    refine res_intro (vs := [_, _]) Tryz.results43 (.inr rfl) (.cons (.tmp rfl) (.cons (.tmp rfl) (.nil))) ?_
    exact ⟨_, by (repeat (first | exact Ka | refine Kb ?_ | refine Kc ?_ | refine Kf ?_ | refine Kd ?_ | refine Ke ?_ | refine Kh ?_ | refine Kg rfl ?_ | refine Ki ?_ | refine Kj ?_ | refine Kk ?_ | refine Kl ?_ | refine Km ?_ | refine Kn ?_ | refine Ko ?_)), .inl ⟨e, rfl, _, rfl⟩⟩
  · skip
    try simp only [Za, Zb, Zc, Zd, Ze, Zf, Zg, Zh] at h1
    have e0 : rdImg kind xs = if wordOf (xs.drop (xs.length - 4)) = sealS (xs.take (xs.length - 4)) then if kind = 0 ∨ xs.take 4 ≠ [99, 110, 99, 100] ∨ xs[4]? ≠ some kind then none else
        match rdUv 0 (((xs.take (xs.length - 4)).drop 5).take (min ((xs.take (xs.length - 4)).drop 5).length 10)) with
        | .error _ => none
        | .ok (n, m) => rdBlks n (((xs.take (xs.length - 4)).drop 5).drop m)
      else none := by rw [rdImg, if_neg (by omega)]
    obtain ⟨x4, hx4⟩ : ∃ x, xs[4]? = some x := ⟨_, List.getElem?_eq_getElem (by omega)⟩
    have hx4b := hb x4 (List.mem_of_getElem? hx4)
    refine w_skip (sq_n (w_seq (w_region (?_))))
    refine o_ev (ev_move rfl) rfl ?_
    refine o_ev (ev_len1 rfl) rfl ?_
    refine o_ev (ev_sub rfl rfl (by omega)) rfl ?_
    refine o_ev (ev_assign rfl) rfl ?_
    refine o_nil (sq_n (w_seq (w_seq (?_))))
    refine w_still Tryz_mixed ?_
    have hc1 : Sl H (s.cut 1 (xs.length - 4) xs.length) eB ((xs.take xs.length).drop (xs.length - 4)) := Sl.cut (e := eB) inferInstance (by omega) (by omega)
    rw [List.take_length] at hc1
    have hc2 : Sl H (s.cut 1 0 (xs.length - 4)) eB ((xs.take (xs.length - 4)).drop 0) := Sl.cut (e := eB) inferInstance (by omega) (by omega)
    rw [List.drop_zero] at hc2
    refine an_first 0 rfl rfl (by kernel_rfl) rfl (qv_at (ev_move rfl)) ?_
    refine an_first 1 rfl rfl (by kernel_rfl) rfl (qv_at (ev_move rfl)) ?_
    refine an_first 2 rfl rfl (by kernel_rfl) rfl (qv_at (ev_slice1 rfl (by rfl) (xs.length - 4) xs.length ⟨_, _, rfl, by omega⟩ rfl (by omega) (by omega))) ?_
    refine an_first 3 rfl rfl (by kernel_rfl) rfl (qv_call (vs := [_]) rfl (wordPr (by rw [List.length_drop]; omega) (fun y hy => hb y (List.mem_of_mem_drop hy)))) ?_
    refine an_first 4 rfl rfl (by kernel_rfl) rfl (qv_at (ev_move rfl)) ?_
    refine an_first 5 rfl rfl (by kernel_rfl) rfl (qv_at (ev_move rfl)) ?_
    refine an_first 6 rfl rfl (by kernel_rfl) rfl (qv_at (ev_slice1 rfl (by rfl) 0 (xs.length - 4) rfl ⟨_, _, rfl, by omega⟩ (by omega) (by omega))) ?_
    refine an_first 7 rfl rfl (by kernel_rfl) rfl (qv_call (vs := [_]) rfl (sealPr (by rw [List.length_take]; omega) (fun y hy => hb y (List.mem_of_mem_take hy)))) ?_
    refine an_first 8 rfl rfl (by kernel_rfl) rfl (qv_at (ev_neq rfl rfl)) ?_
    refine an_nil (by kernel_rfl) (fun _ _ => rfl) (sq_n (?_))
    refine w_if rfl (fun h2 => ?_) (fun h2 => ?_)
    · skip
      try simp only [Za, Zb, Zc, Zd, Ze, Zf, Zg, Zh] at h2
      rw [if_neg (by omega)] at e0
      refine w_seq (?_)
      refine w_still Tryz_mixed ?_
      refine an_first 0 rfl rfl (by kernel_rfl) rfl (qv_at (ev_load rfl)) ?_
      refine an_first 1 rfl rfl (by kernel_rfl) rfl (qv_at (ev_assign rfl)) ?_
      refine an_first 2 rfl rfl (by kernel_rfl) rfl (qv_at (ev_assign rfl)) ?_
      refine an_nil (by kernel_rfl) (fun _ _ => rfl) (sq_n (w_ret (sq_r (?_))))
      refine res_intro (vs := [_, _]) Tryz.results43 (.inr rfl) (.cons (.tmp rfl) (.cons (.tmp rfl) (.nil))) ?_
      exact ⟨_, by (repeat (first | exact Ka | refine Kb ?_ | refine Kc ?_ | refine Kf ?_ | refine Kd ?_ | refine Ke ?_ | refine Kh ?_ | refine Kg rfl ?_ | refine Ki ?_ | refine Kj ?_ | refine Kk ?_ | refine Kl ?_ | refine Km ?_ | refine Kn ?_ | refine Ko ?_)), .inl ⟨e0, rfl, _, rfl⟩⟩
    · skip
      try simp only [Za, Zb, Zc, Zd, Ze, Zf, Zg, Zh] at h2
      rw [if_pos (by omega)] at e0
      refine w_skip (sq_n (w_seq (w_seq (w_region (?_)))))
      have hc3 : Sl H (s.cut 1 0 4) eB ((xs.take 4).drop 0) := Sl.cut (e := eB) inferInstance (by omega) (by omega)
      rw [List.drop_zero] at hc3
      refine o_ev (ev_move rfl) rfl ?_
      refine o_ev (ev_eql rfl rfl) rfl ?_
      refine o_split (ev_move rfl) rfl (fun h3 => ?_) (fun h3 => ?_)
      · skip
        try simp only [Za, Zb, Zc, Zd, Ze, Zf, Zg, Zh] at h3
        refine o_off rfl rfl rfl ?_
        refine o_off rfl rfl rfl ?_
        refine o_off rfl rfl rfl ?_
        refine o_off rfl rfl rfl ?_
        refine o_ev (ev_pick_t rfl rfl) rfl ?_
        refine o_ev (ev_move rfl) rfl ?_
        refine o_off rfl rfl rfl ?_
        refine o_off rfl rfl rfl ?_
        refine o_off rfl rfl rfl ?_
        refine o_off rfl rfl rfl ?_
        refine o_off rfl rfl rfl ?_
        refine o_ev (ev_pick_t rfl rfl) rfl ?_
        refine o_nil (sq_n (?_))
        refine w_if_true rfl (w_seq (?_))
        refine w_still Tryz_mixed ?_
        refine an_first 0 rfl rfl (by kernel_rfl) rfl (qv_at (ev_load rfl)) ?_
        refine an_first 1 rfl rfl (by kernel_rfl) rfl (qv_at (ev_assign rfl)) ?_
        refine an_first 2 rfl rfl (by kernel_rfl) rfl (qv_at (ev_assign rfl)) ?_
        refine an_nil (by kernel_rfl) (fun _ _ => rfl) (sq_n (w_ret (sq_r (?_))))
        refine res_intro (vs := [_, _]) Tryz.results43 (.inr rfl) (.cons (.tmp rfl) (.cons (.tmp rfl) (.nil))) ?_
        refine ⟨_, by (repeat (first | exact Ka | refine Kb ?_ | refine Kc ?_ | refine Kf ?_ | refine Kd ?_ | refine Ke ?_ | refine Kh ?_ | refine Kg rfl ?_ | refine Ki ?_ | refine Kj ?_ | refine Kk ?_ | refine Kl ?_ | refine Km ?_ | refine Kn ?_ | refine Ko ?_)), .inl ⟨?_, rfl, _, rfl⟩⟩
        rw [e0, if_pos]
        first
          | exact .inl (by omega)
          | exact .inr (.inl (by assumption))
          | exact .inr (.inr (by rw [hx4]; simp only [ne_eq, Option.some.injEq]; omega))
      · skip
        try simp only [Za, Zb, Zc, Zd, Ze, Zf, Zg, Zh] at h3
        refine o_on_ev rfl rfl rfl (ev_move rfl) ?_
        refine o_on_ev rfl rfl rfl (ev_slice1 rfl (by rfl) 0 4 rfl ⟨_, _, rfl, rfl⟩ (by omega) (by omega)) ?_
        refine o_on_ev rfl rfl rfl (ev_bytesToString rfl) ?_
        refine o_on_ev rfl rfl rfl (ev_neq_strB rfl rfl (fun y hy => hb y (List.mem_of_mem_take hy)) (ys := [99, 110, 99, 100]) (by decide +kernel)) ?_
        refine o_ev (ev_pick_f rfl rfl) rfl ?_
        refine o_split (ev_move rfl) rfl (fun h4 => ?_) (fun h4 => ?_)
        · skip
          try simp only [Za, Zb, Zc, Zd, Ze, Zf, Zg, Zh] at h4
          refine o_off rfl rfl rfl ?_
          refine o_off rfl rfl rfl ?_
          refine o_off rfl rfl rfl ?_
          refine o_off rfl rfl rfl ?_
          refine o_off rfl rfl rfl ?_
          refine o_ev (ev_pick_t rfl rfl) rfl ?_
          refine o_nil (sq_n (?_))
          refine w_if_true rfl (w_seq (?_))
          refine w_still Tryz_mixed ?_
          refine an_first 0 rfl rfl (by kernel_rfl) rfl (qv_at (ev_load rfl)) ?_
          refine an_first 1 rfl rfl (by kernel_rfl) rfl (qv_at (ev_assign rfl)) ?_
          refine an_first 2 rfl rfl (by kernel_rfl) rfl (qv_at (ev_assign rfl)) ?_
          refine an_nil (by kernel_rfl) (fun _ _ => rfl) (sq_n (w_ret (sq_r (?_))))
          refine res_intro (vs := [_, _]) Tryz.results43 (.inr rfl) (.cons (.tmp rfl) (.cons (.tmp rfl) (.nil))) ?_
          refine ⟨_, by (repeat (first | exact Ka | refine Kb ?_ | refine Kc ?_ | refine Kf ?_ | refine Kd ?_ | refine Ke ?_ | refine Kh ?_ | refine Kg rfl ?_ | refine Ki ?_ | refine Kj ?_ | refine Kk ?_ | refine Kl ?_ | refine Km ?_ | refine Kn ?_ | refine Ko ?_)), .inl ⟨?_, rfl, _, rfl⟩⟩
          rw [e0, if_pos]
          first
            | exact .inl (by omega)
            | exact .inr (.inl (by assumption))
            | exact .inr (.inr (by rw [hx4]; simp only [ne_eq, Option.some.injEq]; omega))
        · skip
          try simp only [Za, Zb, Zc, Zd, Ze, Zf, Zg, Zh] at h4
          refine o_on_ev rfl rfl rfl (ev_move rfl) ?_
          refine o_on_ev rfl rfl rfl (ev_indexAddr rfl rfl 4 rfl (by omega)) ?_
          refine o_on_ev rfl rfl rfl (ev_load_el rfl (by rfl) (by rfl) x4 hx4) ?_
          refine o_on_ev rfl rfl rfl (ev_move rfl) ?_
          refine o_on_ev rfl rfl rfl (ev_neq rfl rfl) ?_
          refine o_ev (ev_pick_f rfl rfl) rfl ?_
          refine o_nil (sq_n (?_))
          refine w_if rfl (fun h5 => ?_) (fun h5 => ?_)
          · skip
            try simp only [Za, Zb, Zc, Zd, Ze, Zf, Zg, Zh] at h5
            refine w_seq (?_)
            refine w_still Tryz_mixed ?_
            refine an_first 0 rfl rfl (by kernel_rfl) rfl (qv_at (ev_load rfl)) ?_
            refine an_first 1 rfl rfl (by kernel_rfl) rfl (qv_at (ev_assign rfl)) ?_
            refine an_first 2 rfl rfl (by kernel_rfl) rfl (qv_at (ev_assign rfl)) ?_
            refine an_nil (by kernel_rfl) (fun _ _ => rfl) (sq_n (w_ret (sq_r (?_))))
            refine res_intro (vs := [_, _]) Tryz.results43 (.inr rfl) (.cons (.tmp rfl) (.cons (.tmp rfl) (.nil))) ?_
            refine ⟨_, by (repeat (first | exact Ka | refine Kb ?_ | refine Kc ?_ | refine Kf ?_ | refine Kd ?_ | refine Ke ?_ | refine Kh ?_ | refine Kg rfl ?_ | refine Ki ?_ | refine Kj ?_ | refine Kk ?_ | refine Kl ?_ | refine Km ?_ | refine Kn ?_ | refine Ko ?_)), .inl ⟨?_, rfl, _, rfl⟩⟩
            rw [e0, if_pos]
            first
              | exact .inl (by omega)
              | exact .inr (.inl (by assumption))
              | exact .inr (.inr (by rw [hx4]; simp only [ne_eq, Option.some.injEq]; omega))
          · skip
            try simp only [Za, Zb, Zc, Zd, Ze, Zf, Zg, Zh] at h5
            refine w_skip (sq_n (w_seq (w_region (?_))))
            rw [if_neg (by
              rintro (h | h | h)
              · omega
              · exact h (by assumption)
              · exact h (by rw [hx4]; congr 1; omega))] at e0
            refine o_ev (ev_move rfl) rfl ?_
            refine o_ev (ev_move rfl) rfl ?_
            refine o_slice H rfl (5) (xs.length - 4) ⟨_, _, rfl, (by first | rfl | omega)⟩ ⟨_, _, rfl, (by first | rfl | omega)⟩ (by omega) (by first | omega | (simp; omega)) rfl ?_
            intro s1 i1
            obtain ⟨rs, hrs⟩ : ∃ rs, rs = (xs.take (xs.length - 4)).drop 5 := ⟨_, rfl⟩
            rw [← hrs] at i1 e0
            have hbr : ∀ y ∈ rs, y < 256 := fun y hy => hb y (List.mem_of_mem_take (List.mem_of_mem_drop (hrs ▸ hy)))
            have hlr : rs.length = xs.length - 9 := by rw [hrs, List.length_drop, List.length_take]; omega
            refine o_ev (ev_assign rfl) rfl ?_
            refine o_nil (sq_n (w_seq (w_region (?_))))
            refine o_ev (ev_move rfl) rfl ?_
            refine o_ev (ev_move rfl) rfl ?_
            refine o_ev (ev_len1 rfl) rfl ?_
            refine o_ev (ev_min rfl rfl) rfl ?_
            refine o_slice H rfl (0) (min rs.length 10) rfl ⟨_, _, rfl, (by first | rfl | omega)⟩ (by omega) (by first | omega | (simp; omega)) rfl ?_
            intro s2 i2
            rw [List.drop_zero] at i2
            refine o_st (st_call (vs := [_]) rfl (newReader (by rw [List.length_take]; omega))) rfl ?_
            rintro _ _ ⟨b1, rfl, rfl⟩
            refine o_ev (ev_assign rfl) rfl ?_
            refine o_nil (sq_n (w_seq (w_region (?_))))
            refine o_ev (ev_move rfl) rfl ?_
            refine o_st (st_call (vs := [_]) rfl (rUvarint (Nat.zero_le _) (by rw [List.length_take]; omega) (fun y hy => hbr y (List.mem_of_mem_take hy)))) rfl ?_
            rintro v1 H1 hK
            rw [List.drop_zero] at hK
            rcases hK with ⟨e, he, rfl, rfl⟩ | ⟨n, m, he, rfl, rfl⟩
            · skip
              rw [he] at e0
              refine o_ev (ev_move rfl) rfl ?_
              refine o_ev (ev_extract1 rfl rfl) rfl ?_
              refine o_ev (ev_extract1 rfl rfl) rfl ?_
              refine o_ev (ev_assign rfl) rfl ?_
              refine o_ev (ev_assign rfl) rfl ?_
              refine o_nil (sq_n (w_seq (w_seq (w_region (?_)))))
              refine o_ev (ev_move rfl) rfl ?_
              refine o_ev (ev_neq_nil_val rfl) rfl ?_
              refine o_nil (sq_n (?_))
              refine w_if_true rfl (w_seq (w_region (?_)))
              refine o_ev (ev_move rfl) rfl ?_
              refine o_ev (ev_assign rfl) rfl ?_
              refine o_ev (ev_assign rfl) rfl ?_
              refine o_nil (sq_n (w_ret (sq_r (?_))))
              refine res_intro (vs := [_, _]) Tryz.results43 (.inr rfl) (.cons (.tmp rfl) (.cons (.tmp rfl) (.nil))) ?_
              exact ⟨_, by (repeat (first | exact Ka | refine Kb ?_ | refine Kc ?_ | refine Kf ?_ | refine Kd ?_ | refine Ke ?_ | refine Kh ?_ | refine Kg rfl ?_ | refine Ki ?_ | refine Kj ?_ | refine Kk ?_ | refine Kl ?_ | refine Km ?_ | refine Kn ?_ | refine Ko ?_)), .inl ⟨e0, rfl, _, rfl⟩⟩
            · skip
              obtain ⟨p1, p2, p3, p4, p5, p6⟩ := rdUv_ok _ 0 n m (fun y hy => hbr y (List.mem_of_mem_take hy)) (by omega) he
              rw [List.length_take] at p4
              rw [he] at e0
              replace e0 : rdImg kind xs = rdBlks n (rs.drop m) := e0
              refine o_ev (ev_move rfl) rfl ?_
              refine o_ev (ev_extract1 rfl rfl) rfl ?_
              refine o_ev (ev_extract1 rfl rfl) rfl ?_
              refine o_ev (ev_assign rfl) rfl ?_
              refine o_ev (ev_assign rfl) rfl ?_
              refine o_nil (sq_n (w_seq (w_seq (w_region (?_)))))
              refine o_ev (ev_move rfl) rfl ?_
              refine o_ev (ev_neq_nil_nil rfl) rfl ?_
              refine o_nil (sq_n (?_))
              refine w_if_false rfl (w_skip (sq_n (w_seq (w_region (?_)))))
              refine o_ev (ev_move rfl) rfl ?_
              refine o_ev (ev_move rfl) rfl ?_
              refine o_ev (ev_nilCheck rfl) rfl ?_
              refine o_ev (ev_fieldAddr rfl) rfl ?_
              refine o_st (st_call (vs := [_]) rfl (spanAt)) rfl ?_
              rintro _ _ ⟨rfl, rfl⟩
              refine o_slice H rfl (m) (rs.length) ⟨_, _, rfl, (by first | rfl | omega)⟩ rfl (by omega) (by first | omega | (simp; omega)) rfl ?_
              intro s3 i3
              rw [List.take_length] at i3
              refine o_ev (ev_assign rfl) rfl ?_
              refine o_nil (sq_n (w_seq (w_region (?_))))
              refine o_ev (ev_assign rfl) rfl ?_
              refine o_nil (sq_n (w_seq (w_block (?_))))
              refine w_loop (SV × SV × Nat × List Nat × List (Nat × SV) × List (Nat × List Nat) × Heap) (fun y => Sl H y.2.1 eB y.2.2.2.1 ∧ (∀ z ∈ y.2.2.2.1, z < 256) ∧ Bods y.2.2.2.2.2.2 y.2.2.2.2.1 y.2.2.2.2.2.1 ∧ y.2.2.1 < 18446744073709551616 ∧ y.2.2.2.2.1.length + y.2.2.2.1.length ≤ 1000000000 ∧ rdImg kind xs = glueB y.2.2.2.2.2.1 (rdBlks y.2.2.1 y.2.2.2.1) ∧ y.2.2.2.2.2.2 = (List.zipWith rowK y.2.2.2.2.1 y.2.2.2.2.2.1).reverse) (fun y => [(7, y.2.1.val), (9, .int .u64 ((y.2.2.1 : Nat) : Int)), (11, y.1.val)]) (fun y => Row y.1 eK y.2.2.2.2.1 :: Star y.2.2.2.2.2.2 :: H) (fun y => y.2.2.1) ((SV.nil, s3, n, rs.drop m, [], [], [])) ?_ ?_ ?_ ?_
              · (try dsimp only)
                refine ⟨i3, fun z hz => hbr z (List.mem_of_mem_drop hz), Bods.nil, by omega, by rw [List.length_drop]; simp only [List.length_nil]; omega, ?_, rfl⟩
                rw [e0]
                cases rdBlks n (rs.drop m) with
                | none => rfl
                | some r => rfl
              · repeat (first | exact Sub.nil | refine Sub.cons rfl ?_)
              · (try dsimp only)
                (repeat (first | exact Ka | refine Kb ?_ | refine Kc ?_ | refine Kf ?_ | refine Kd ?_ | refine Ke ?_ | refine Kh ?_ | refine Kg rfl ?_ | refine Ki ?_ | refine Kj ?_ | refine Kk ?_ | refine Kl ?_ | refine Km ?_ | refine Kn ?_ | refine Ko ?_))
              · rintro ⟨sb, sr, n', r, l, bl, F⟩ ⟨hsr, hbz, hB, hn', hlen, hI, hF⟩
                (try dsimp only at *)
                refine w_seq (w_seq (w_region (?_)))
                refine o_ev (ev_move rfl) rfl ?_
                refine o_ev (ev_gtr rfl rfl) rfl ?_
                refine o_nil (sq_n (?_))
                refine w_if rfl (fun h6 => ?_) (fun h6 => ?_)
                · skip
                  try simp only [Za, Zb, Zc, Zd, Ze, Zf, Zg, Zh] at h6
                  obtain ⟨d, rfl⟩ : ∃ d, n' = d + 1 := ⟨n' - 1, by omega⟩
                  rw [rdBlks] at hI
                  refine w_skip (sq_n (w_seq (w_block (w_seq (w_region (?_))))))
                  refine o_ev (ev_move rfl) rfl ?_
                  refine o_st (st_call (vs := [_]) rfl (fDecode (xs := r) (by omega) hbz)) rfl ?_
                  rintro v1 H1 hK
                  rcases hK with ⟨he2, rfl, e, rfl⟩ | ⟨f, q, x, s5, he2, hft, htl, hx, rfl, rfl⟩
                  all_goals rw [he2] at hI
                  all_goals simp only [] at hI
                  · skip
                    refine o_ev (ev_move rfl) rfl ?_
                    refine o_ev (ev_extract1 rfl rfl) rfl ?_
                    refine o_ev (ev_extract1 rfl rfl) rfl ?_
                    refine o_ev (ev_extract1 rfl rfl) rfl ?_
                    refine o_st (st_alloc) rfl ?_
                    rintro _ _ ⟨b1, rfl, rfl⟩
                    refine o_st (st_store rfl rfl rfl) rfl ?_
                    rintro _ _ ⟨rfl, rfl⟩
                    refine o_ev (ev_assign rfl) rfl ?_
                    refine o_ev (ev_assign rfl) rfl ?_
                    refine o_nil (sq_n (w_seq (w_seq (w_region (?_)))))
                    refine o_ev (ev_move rfl) rfl ?_
                    refine o_ev (ev_neq_nil_val rfl) rfl ?_
                    refine o_nil (sq_n (?_))
                    refine w_if_true rfl (w_seq (w_region (?_)))
                    refine o_ev (ev_move rfl) rfl ?_
                    refine o_ev (ev_assign rfl) rfl ?_
                    refine o_ev (ev_assign rfl) rfl ?_
                    refine o_nil (sq_n (w_ret (sq_r (bk_r (sq_r (lq_r (bk_r (sq_r (?_)))))))))
                    refine res_intro (vs := [_, _]) Tryz.results43 (.inr rfl) (.cons (.tmp rfl) (.cons (.tmp rfl) (.nil))) ?_
                    exact ⟨_, by (repeat (first | exact Ka | refine Kb ?_ | refine Kc ?_ | refine Kf ?_ | refine Kd ?_ | refine Ke ?_ | refine Kh ?_ | refine Kg rfl ?_ | refine Ki ?_ | refine Kj ?_ | refine Kk ?_ | refine Kl ?_ | refine Km ?_ | refine Kn ?_ | refine Ko ?_)), .inl ⟨hI, rfl, _, rfl⟩⟩
                  · skip
                    refine o_ev (ev_move rfl) rfl ?_
                    refine o_ev (ev_extract1 rfl rfl) rfl ?_
                    refine o_ev (ev_extract1 rfl rfl) rfl ?_
                    refine o_ev (ev_extract1 rfl rfl) rfl ?_
                    refine o_st (st_alloc) rfl ?_
                    rintro _ _ ⟨b2, rfl, rfl⟩
                    refine o_st (st_store rfl rfl rfl) rfl ?_
                    rintro _ _ ⟨rfl, rfl⟩
                    refine o_ev (ev_assign rfl) rfl ?_
                    refine o_ev (ev_assign rfl) rfl ?_
                    refine o_nil (sq_n (w_seq (w_seq (w_region (?_)))))
                    refine o_ev (ev_move rfl) rfl ?_
                    refine o_ev (ev_neq_nil_nil rfl) rfl ?_
                    refine o_nil (sq_n (?_))
                    refine w_if_false rfl (w_skip (sq_n (w_seq (w_region (?_)))))
                    refine o_ev (ev_move rfl) rfl ?_
                    refine o_ev (ev_loadS rfl) rfl ?_
                    refine o_st (st_build1 eK rfl rfl) rfl ?_
                    rintro _ _ ⟨s1, rfl, rfl⟩
                    refine o_st (st_append rfl rfl rfl rfl (by first | omega | (simp only [List.length_append, List.length_cons, List.length_nil]; omega) | (simp; omega)) (by first | omega | (simp only [List.length_append, List.length_cons, List.length_nil]; omega) | (simp; omega))) rfl ?_
                    rintro _ _ ⟨s2, rfl, rfl⟩
                    refine o_ev (ev_assign rfl) rfl ?_
                    refine o_nil (sq_n (w_region (?_)))
                    refine o_ev (ev_move rfl) rfl ?_
                    refine o_ev (ev_move rfl) rfl ?_
                    refine o_slice H rfl (q + 4) (r.length) ⟨_, _, rfl, (by first | rfl | omega)⟩ rfl (by omega) (by first | omega | (simp; omega)) rfl ?_
                    intro s4 i4
                    rw [List.take_length] at i4
                    refine o_ev (ev_assign rfl) rfl ?_
                    refine o_nil (bk_n (sq_n (w_region (?_))))
                    refine o_ev (ev_move rfl) rfl ?_
                    refine o_ev (ev_subL 18446744073709551616 rfl rfl rfl rfl _ 1 rfl rfl (by omega) (by omega)) rfl ?_
                    refine o_ev (ev_assign rfl) rfl ?_
                    refine o_nil (?_)
                    skip
                    refine lq_n ((s2, s4, d, r.drop (q + 4), l ++ [(x, s5)], bl ++ [(x, (r.take q).drop f)], Row s5 eB ((r.take q).drop f) :: F)) ?_ ?_ ?_ ?_
                    · (try dsimp only)
                      refine ⟨i4, fun z hz => hbz z (List.mem_of_mem_drop hz), hB.snoc x s5 _, by omega, by rw [List.length_append, List.length_drop]; simp only [List.length_cons, List.length_nil]; omega, ?_, by rw [List.zipWith_append hB.1, hF, List.reverse_append]; rfl⟩
                      rw [hI, headD_get hx]
                      cases rdBlks d (r.drop (q + 4)) with
                      | none => rfl
                      | some r' => simp [glueB]
                    · (try dsimp only)
                      omega
                    · repeat (first | exact Sub.nil | refine Sub.cons rfl ?_)
                    · (try dsimp only)
                      (repeat (first | exact Ka | refine Kb ?_ | refine Kc ?_ | refine Kf ?_ | refine Kd ?_ | refine Ke ?_ | refine Kh ?_ | refine Kg rfl ?_ | refine Ki ?_ | refine Kj ?_ | refine Kk ?_ | refine Kl ?_ | refine Km ?_ | refine Kn ?_ | refine Ko ?_))
                · skip
                  try simp only [Za, Zb, Zc, Zd, Ze, Zf, Zg, Zh] at h6
                  obtain rfl : n' = 0 := by omega
                  rw [rdBlks] at hI
                  refine w_exit (sq_e (lq_e (bk_h (sq_n (w_seq (w_seq (w_region (?_))))))))
                  refine o_ev (ev_move rfl) rfl ?_
                  refine o_ev (ev_len1 rfl) rfl ?_
                  refine o_ev (ev_gtr rfl rfl) rfl ?_
                  refine o_nil (sq_n (?_))
                  refine w_if rfl (fun h7 => ?_) (fun h7 => ?_)
                  · skip
                    try simp only [Za, Zb, Zc, Zd, Ze, Zf, Zg, Zh] at h7
                    rw [if_neg (by omega)] at hI
                    refine w_seq (?_)
                    refine w_still Tryz_mixed ?_
                    refine an_first 0 rfl rfl (by kernel_rfl) rfl (qv_at (ev_load rfl)) ?_
                    refine an_first 1 rfl rfl (by kernel_rfl) rfl (qv_at (ev_assign rfl)) ?_
                    refine an_first 2 rfl rfl (by kernel_rfl) rfl (qv_at (ev_assign rfl)) ?_
                    refine an_nil (by kernel_rfl) (fun _ _ => rfl) (sq_n (w_ret (sq_r (?_))))
                    refine res_intro (vs := [_, _]) Tryz.results43 (.inr rfl) (.cons (.tmp rfl) (.cons (.tmp rfl) (.nil))) ?_
                    exact ⟨_, by (repeat (first | exact Ka | refine Kb ?_ | refine Kc ?_ | refine Kf ?_ | refine Kd ?_ | refine Ke ?_ | refine Kh ?_ | refine Kg rfl ?_ | refine Ki ?_ | refine Kj ?_ | refine Kk ?_ | refine Kl ?_ | refine Km ?_ | refine Kn ?_ | refine Ko ?_)), .inl ⟨hI, rfl, _, rfl⟩⟩
                  · skip
                    try simp only [Za, Zb, Zc, Zd, Ze, Zf, Zg, Zh] at h7
                    rw [if_pos (by omega)] at hI
                    refine w_skip (sq_n (w_seq (w_region (?_))))
                    refine o_ev (ev_move rfl) rfl ?_
                    refine o_ev (ev_assign rfl) rfl ?_
                    refine o_ev (ev_assign rfl) rfl ?_
                    refine o_nil (sq_n (w_ret (?_)))
                    refine res_intro (vs := [_, _]) Tryz.results43 (.inr rfl) (.cons (.tmp rfl) (.cons (.tmp rfl) (.nil))) ?_
                    exact ⟨_, by (repeat (first | exact Ka | refine Kb ?_ | refine Kc ?_ | refine Kf ?_ | refine Kd ?_ | refine Ke ?_ | refine Kh ?_ | refine Kg rfl ?_ | refine Ki ?_ | refine Kj ?_ | refine Kk ?_ | refine Kl ?_ | refine Km ?_ | refine Kn ?_ | refine Ko ?_)), .inr ⟨bl, l, F, sb, by rw [hI]; simp [glueB], hB, hF, rfl, rfl⟩⟩
theorem fUnpack {G : Base} {H : Heap} {s : SV} {xs : List Nat} [hg : Glb G H] [Tab H 26 zipT] [Tab H 24 sealT] [hs : Sl H s eB xs] (kind : Nat) (hk : kind < 256) (hn : xs.length ≤ 1000000000) (hb : ∀ x ∈ xs, x < 256) : SC G Tryz.prog 43 [.int .u8 ((kind : Nat) : Int), s.val] H (fun v H' =>
    (rdImg kind xs = none ∧ H' = H ∧ ∃ e, v = .tuple #[.slice none 0 0, G.err e]) ∨ (∃ bl l F, ∃ s' : SV, rdImg kind xs = some bl ∧ Bods F l bl ∧ v = .tuple #[s'.val, .nilIface] ∧ H' = Row s' eK l :: Star F :: H)) :=
  (fUnpackO kind hk hn hb).mono fun v H' h => h.imp id fun ⟨bl, l, F, s', h1, h2, _, h3, h4⟩ => ⟨bl, l, F, s', h1, h2, h3, h4⟩
end Go.Sx
