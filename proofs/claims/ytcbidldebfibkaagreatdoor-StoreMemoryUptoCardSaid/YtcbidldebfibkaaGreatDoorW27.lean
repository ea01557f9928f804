import Derived.Test.YtcbidldebfibkaaGreatDoorW25
set_option linter.unusedVariables false
set_option linter.unusedSimpArgs false
set_option linter.unusedSectionVars false
set_option linter.unnecessarySimpa false
namespace Go.Sx
open Go Go.Proofs
set_option maxRecDepth 100000
set_option linter.unusedSimpArgs false
set_option linter.unusedVariables false

/-! ## The reference's index -/
theorem refDead {G : Base} {H : Heap} {s : SV} {l : List Int} [Sl H s eI l] (hm : l.length ≤ 10000000000) (hbl : below l = false) (hri : rise l = true) (hl : ∀ x ∈ l, x ≤ 9223372036854775807) : SC G Tryz.prog 33 [s.val] H (fun v H' => ∃ s' : SV, v = s'.val ∧ H' = Row s' eB (uv l.length ++ riseB (-1) l) :: H) := by
  have hb := (below_iff l).1 hbl
  refine SC.out (sc_walk Tryz.func33 rfl Tryz.ntmps33 (by kernel_rfl) (Nat.le_of_ble_eq_true rfl) ?_)
  refine w_seq (w_region (?_))
  refine o_ev (ev_assign rfl) rfl ?_
  refine o_nil (sq_n (w_seq (w_region (?_))))
  refine o_ev (ev_move rfl) rfl ?_
  refine o_ev (ev_len1 rfl) rfl ?_
  refine o_st (st_call (vs := [_, _]) rfl (refUvN l.length rfl (by omega))) rfl ?_
  rintro _ _ ⟨s1, rfl, rfl⟩
  refine o_ev (ev_assign rfl) rfl ?_
  refine o_nil (sq_n (w_seq (w_seq (w_region (?_)))))
  refine o_ev (ev_assign rfl) rfl ?_
  refine o_nil (sq_n (w_block (?_)))
  refine w_loop (SV × Nat × Int × List Nat) (fun y => y.2.1 ≤ l.length ∧ y.2.2.2 ++ riseB y.2.2.1 (l.drop y.2.1) = uv l.length ++ riseB (-1) l ∧ y.2.2.2.length ≤ 10 + 10 * y.2.1 ∧ -1 ≤ y.2.2.1 ∧ (y.2.1 = 0 → y.2.2.1 = -1) ∧ ∀ x, 0 < y.2.1 → l[y.2.1 - 1]? = some x → x = y.2.2.1) (fun y => [(0, s.val), (3, y.1.val), (4, .int .i64 ((y.2.1 : Nat) : Int))]) (fun y => Row y.1 eB y.2.2.2 :: H) (fun y => l.length - y.2.1) ((s1, 0, -1, uv l.length)) ?_ ?_ ?_ ?_
  · (try dsimp only)
    have := uv_len10 (n := l.length) (by omega)
    exact ⟨Nat.zero_le _, by simp, by omega, Int.le_refl _, fun _ => rfl, fun x h => absurd h (Nat.lt_irrefl _)⟩
  · repeat (first | exact Sub.nil | refine Sub.cons rfl ?_)
  · (try dsimp only)
    (repeat (first | exact Ka | refine Kb ?_ | refine Kc ?_ | refine Kf ?_ | refine Kd ?_ | refine Ke ?_ | refine Kh ?_ | refine Kg rfl ?_ | refine Ki ?_ | refine Kj ?_ | refine Kk ?_ | refine Kl ?_ | refine Km ?_ | refine Kn ?_ | refine Ko ?_))
  · rintro ⟨so, k, last, zs⟩ ⟨hk, hI, hlen, hlast, hz, hprev⟩
    (try dsimp only at *)
    refine w_seq (w_seq (w_region (?_)))
    refine o_ev (ev_move rfl) rfl ?_
    refine o_ev (ev_move rfl) rfl ?_
    refine o_ev (ev_len1 rfl) rfl ?_
    refine o_ev (ev_lss rfl rfl) rfl ?_
    refine o_nil (sq_n (?_))
    refine w_if rfl (fun h1 => ?_) (fun h1 => ?_)
    · skip
      try simp only [Za, Zb, Zc, Zd, Ze, Zf, Zg, Zh] at h1
      obtain ⟨x, hx⟩ : ∃ x, l[k]? = some x := ⟨_, List.getElem?_eq_getElem (by omega)⟩
      have hx0 := hb k x hx
      have hxm := hl x (List.mem_of_getElem? hx)
      have hgt : last < x := by
        rcases Nat.eq_zero_or_pos k with h0 | h0
        · have := hz h0; omega
        · obtain ⟨w, hw⟩ : ∃ w, l[k - 1]? = some w := ⟨_, List.getElem?_eq_getElem (by omega)⟩
          have h3 := hprev w h0 hw
          have h4 := (rise_iff l).1 hri (k - 1) w x hw (by rw [Nat.sub_add_cancel h0]; exact hx)
          omega
      have hul2 := uv_len10 (n := (x - last - 1).toNat) (by omega)
      refine w_skip (sq_n (w_seq (w_block (w_seq (w_region (?_))))))
      refine o_ev (ev_move rfl) rfl ?_
      refine o_ev (ev_eql rfl rfl) rfl ?_
      refine o_nil (sq_n (?_))
      refine w_if rfl (fun h2 => ?_) (fun h2 => ?_)
      · skip
        try simp only [Za, Zb, Zc, Zd, Ze, Zf, Zg, Zh] at h2
        have hl0 := hz (by omega)
        refine w_region (?_)
        refine o_ev (ev_move rfl) rfl ?_
        refine o_ev (ev_move rfl) rfl ?_
        refine o_ev (ev_move rfl) rfl ?_
        refine o_ev (ev_indexAddr rfl rfl k rfl (by omega)) rfl ?_
        refine o_ev (ev_load_el rfl (by rfl) (by rfl) _ (by first | assumption | rfl | exact List.getElem?_eq_getElem (by omega))) rfl ?_
        refine o_st (st_call (vs := [_, _]) rfl (refUv (xs := zs) (x - last - 1).toNat (by omega) (by omega) (by omega))) rfl ?_
        rintro _ _ ⟨s2, rfl, rfl⟩
        refine o_ev (ev_assign rfl) rfl ?_
        refine o_nil (bk_n (sq_n (w_region (?_))))
        refine o_ev (ev_move rfl) rfl ?_
        refine o_ev (ev_add rfl rfl (by omega)) rfl ?_
        refine o_ev (ev_assign rfl) rfl ?_
        refine o_nil (?_)
        skip
        refine lq_n ((s2, k + 1, x, zs ++ uv (x - last - 1).toNat)) ?_ ?_ ?_ ?_
        · (try dsimp only)
          refine ⟨by omega, ?_, by simp only [List.length_append]; omega, by omega, fun h => by omega, fun w' _ hw' => ?_⟩
          · rw [← hI, drop_get hx, riseB, List.append_assoc]
          · rw [Nat.add_sub_cancel] at hw'
            rw [hx] at hw'; cases hw'; rfl
        · (try dsimp only)
          omega
        · repeat (first | exact Sub.nil | refine Sub.cons rfl ?_)
        · (try dsimp only)
          (repeat (first | exact Ka | refine Kb ?_ | refine Kc ?_ | refine Kf ?_ | refine Kd ?_ | refine Ke ?_ | refine Kh ?_ | refine Kg rfl ?_ | refine Ki ?_ | refine Kj ?_ | refine Kk ?_ | refine Kl ?_ | refine Km ?_ | refine Kn ?_ | refine Ko ?_))
      · skip
        try simp only [Za, Zb, Zc, Zd, Ze, Zf, Zg, Zh] at h2
        obtain ⟨w, hw⟩ : ∃ w, l[k - 1]? = some w := ⟨_, List.getElem?_eq_getElem (by omega)⟩
        have hwl := hprev w (by omega) hw
        have hw0 := hb (k - 1) w hw
        refine w_draw Tryz_mixed (fun i => [12].contains i) (fun k H => (k = 3 → Sl H s eI l) ∧ (k = 4 → Sl H s eI l) ∧ (k = 8 → Sl H s eI l) ∧ (k = 9 → Sl H s eI l)) ?_
        refine an_first 0 rfl rfl (by kernel_rfl) rfl (Qv.of_ev (fun H hH => ev_move rfl)) ?_
        refine an_first 1 rfl rfl (by kernel_rfl) rfl (Qv.of_ev (fun H hH => ev_move rfl)) ?_
        refine an_first 2 rfl rfl (by kernel_rfl) rfl (Qv.of_ev (fun H hH => ev_move rfl)) ?_
        refine an_first 3 rfl rfl (by kernel_rfl) rfl (Qv.of_ev (fun H hH => by have hN := hH.1 rfl; exact ev_indexAddr rfl rfl k rfl (by omega))) ?_
        refine an_first 4 rfl rfl (by kernel_rfl) rfl (Qv.of_ev (fun H hH => by have hN := hH.2.1 rfl; exact ev_load_el rfl (by rfl) (by rfl) x hx)) ?_
        refine an_first 5 rfl rfl (by kernel_rfl) rfl (Qv.of_ev (fun H hH => ev_move rfl)) ?_
        refine an_first 6 rfl rfl (by kernel_rfl) rfl (Qv.of_ev (fun H hH => ev_move rfl)) ?_
        refine an_first 7 rfl rfl (by kernel_rfl) rfl (Qv.of_ev (fun H hH => ev_sub rfl rfl (by omega))) ?_
        refine an_first 8 rfl rfl (by kernel_rfl) rfl (Qv.of_ev (fun H hH => by have hN := hH.2.2.1 rfl; exact ev_indexAddr rfl rfl (k - 1) (by omega) (by omega))) ?_
        refine an_first 9 rfl rfl (by kernel_rfl) rfl (Qv.of_ev (fun H hH => by have hN := hH.2.2.2 rfl; exact ev_load_el rfl (by rfl) (by rfl) w hw)) ?_
        refine an_first 10 rfl rfl (by kernel_rfl) rfl (Qv.of_ev (fun H hH => ev_sub rfl rfl (by omega))) ?_
        refine an_first 11 rfl rfl (by kernel_rfl) rfl (Qv.of_ev (fun H hH => ev_sub rfl rfl (by omega))) ?_
        refine an_step 12 rfl (by kernel_rfl) rfl (fun k hk => ⟨fun hi => by subst hi; infer_instance, fun hi => by subst hi; infer_instance, fun hi => by subst hi; infer_instance, fun hi => by subst hi; infer_instance⟩) (st_call (vs := [_, _]) rfl (refUv (xs := zs) (x - last - 1).toNat (by omega) (by omega) (by omega))) ?_
        rintro _ _ ⟨s2, rfl, rfl⟩
        refine an_first 13 rfl rfl (by kernel_rfl) rfl (Qv.of_ev (fun H hH => ev_assign rfl)) ?_
        refine an_nil (by kernel_rfl) (fun k hk => ⟨fun hi => by subst hi; infer_instance, fun hi => by subst hi; infer_instance, fun hi => by subst hi; infer_instance, fun hi => by subst hi; infer_instance⟩) (bk_n (sq_n (w_region (?_))))
        refine o_ev (ev_move rfl) rfl ?_
        refine o_ev (ev_add rfl rfl (by omega)) rfl ?_
        refine o_ev (ev_assign rfl) rfl ?_
        refine o_nil (?_)
        skip
        refine lq_n ((s2, k + 1, x, zs ++ uv (x - last - 1).toNat)) ?_ ?_ ?_ ?_
        · (try dsimp only)
          refine ⟨by omega, ?_, by simp only [List.length_append]; omega, by omega, fun h => by omega, fun w' _ hw' => ?_⟩
          · rw [← hI, drop_get hx, riseB, List.append_assoc]
          · rw [Nat.add_sub_cancel] at hw'
            rw [hx] at hw'; cases hw'; rfl
        · (try dsimp only)
          omega
        · repeat (first | exact Sub.nil | refine Sub.cons rfl ?_)
        · (try dsimp only)
          (repeat (first | exact Ka | refine Kb ?_ | refine Kc ?_ | refine Kf ?_ | refine Kd ?_ | refine Ke ?_ | refine Kh ?_ | refine Kg rfl ?_ | refine Ki ?_ | refine Kj ?_ | refine Kk ?_ | refine Kl ?_ | refine Km ?_ | refine Kn ?_ | refine Ko ?_))
    · skip
      try simp only [Za, Zb, Zc, Zd, Ze, Zf, Zg, Zh] at h1
      obtain rfl : k = l.length := by omega
      have e : zs = uv l.length ++ riseB (-1) l := by rw [← hI]; simp [riseB]
      refine w_exit (sq_e (lq_e (bk_h (sq_n (w_seq (w_region (?_)))))))
      refine o_ev (ev_move rfl) rfl ?_
      refine o_ev (ev_assign rfl) rfl ?_
      refine o_nil (sq_n (w_ret (?_)))
      refine res_intro (vs := [_]) Tryz.results33 (.inr rfl) (.cons (.tmp rfl) (.nil)) ?_
      exact ⟨_, by (repeat (first | exact Ka | refine Kb ?_ | refine Kc ?_ | refine Kf ?_ | refine Kd ?_ | refine Ke ?_ | refine Kh ?_ | refine Kg rfl ?_ | refine Ki ?_ | refine Kj ?_ | refine Kk ?_ | refine Kl ?_ | refine Km ?_ | refine Kn ?_ | refine Ko ?_)), so, rfl, by rw [e]⟩

/-- An error's number, by the variable that holds it. -/
def numE (e : Nat) : Int := ([11, 8, 1, 2, 3, 4, 5, 6, 7, 9, 10, 12, 13, 14, 15, 16, 17, 18, 19, 20, 21, 22, 23, 24] : List Int).getD e (-1)

theorem BodsIn.bods2 {F H H' : Heap} {l : List (Nat × SV)} {bl : List (Nat × List Nat)} (h : BodsIn F H l bl) (hF : ∀ (s : SV) (b : List Nat), Sl F s eB b → Sl H' s eB b) (hH : ∀ (s : SV) (b : List Nat), Sl H s eB b → Sl H' s eB b) : Bods H' l bl :=
  ⟨h.1, fun i p q hp hq => by
    obtain ⟨h1, h2⟩ := h.2 i p q hp hq
    exact ⟨h1, h2.elim (hF _ _) (hH _ _)⟩⟩

theorem refPack {G : Base} {H : Heap} {sf sp : SV} {fs : List FV} {lp : List (SV × SV)} {ps : Pcs} {next : Int} [Sl H sf eF fs] [hsp : Sl H sp eP lp] (hP : PsIn H lp ps) (hk : OkPs ps) (hn : fs.length ≤ 1000000000) (hf : ∀ f ∈ fs, f.name.size ≤ 1000000000000) (hpl : ps.length ≤ 100000000) (hsum : psLen ps ≤ 900000000) :
    SC G Tryz.prog 9 [.agg [sf.val, .int .i64 next, sp.val].toArray] H (fun v H' => (∃ e, packE fs next ps = .error e ∧ v = .tuple #[.slice none 0 0, .int .i64 (numE e)] ∧ H' = H ∧ e < 24) ∨ (∃ img, ∃ s' : SV, packE fs next ps = .ok img ∧ v = .tuple #[s'.val, .int .i64 0] ∧ H' = Row s' eB img :: H)) := by
  obtain ⟨hlen, hin⟩ := hP
  refine SC.out (sc_walk Tryz.func9 rfl Tryz.ntmps9 (by kernel_rfl) (Nat.le_of_ble_eq_true rfl) ?_)
  refine w_seq (w_region (?_))
  refine o_st (st_box rfl) rfl ?_
  rintro _ _ ⟨b1, rfl, rfl⟩
  refine o_ev (ev_assign rfl) rfl ?_
  refine o_ev (ev_assign rfl) rfl ?_
  refine o_nil (sq_n (w_seq (w_region (?_))))
  refine o_ev (ev_fieldAddr rfl) rfl ?_
  refine o_ev (ev_loadS rfl) rfl ?_
  refine o_st (st_call (vs := [_]) rfl (refEncS hn hf)) rfl ?_
  rintro v1 H1 hK
  rcases hK with ⟨hc, s0, rfl, rfl⟩ | ⟨hc, s1, rfl, rfl⟩
  · skip
    refine o_ev (ev_move rfl) rfl ?_
    refine o_ev (ev_extract1 rfl rfl) rfl ?_
    refine o_ev (ev_extract1 rfl rfl) rfl ?_
    refine o_ev (ev_assign rfl) rfl ?_
    refine o_ev (ev_assign rfl) rfl ?_
    refine o_nil (sq_n (w_seq (w_seq (w_region (?_)))))
    refine o_ev (ev_move rfl) rfl ?_
    refine o_ev (ev_neq rfl rfl) rfl ?_
    refine o_nil (sq_n (?_))
    refine w_if_true rfl (w_seq (w_region (?_)))
    refine o_ev (ev_move rfl) rfl ?_
    refine o_ev (ev_assign rfl) rfl ?_
    refine o_ev (ev_assign rfl) rfl ?_
    refine o_nil (sq_n (w_ret (sq_r (?_))))
    refine res_intro (vs := [_, _]) Tryz.results9 (.inr rfl) (.cons (.tmp rfl) (.cons (.tmp rfl) (.nil))) ?_
    exact ⟨_, by (repeat (first | exact Ka | refine Kb ?_ | refine Kc ?_ | refine Kf ?_ | refine Kd ?_ | refine Ke ?_ | refine Kh ?_ | refine Kg rfl ?_ | refine Ki ?_ | refine Kj ?_ | refine Kk ?_ | refine Kl ?_ | refine Km ?_ | refine Kn ?_ | refine Ko ?_)), .inl ⟨0, by rw [packE, if_pos hc], rfl, rfl, by decide⟩⟩
  · skip
    have hes := encS_len hc
    refine o_ev (ev_move rfl) rfl ?_
    refine o_ev (ev_extract1 rfl rfl) rfl ?_
    refine o_ev (ev_extract1 rfl rfl) rfl ?_
    refine o_ev (ev_assign rfl) rfl ?_
    refine o_ev (ev_assign rfl) rfl ?_
    refine o_nil (sq_n (w_seq (w_seq (w_region (?_)))))
    refine o_ev (ev_move rfl) rfl ?_
    refine o_ev (ev_neq rfl rfl) rfl ?_
    refine o_nil (sq_n (?_))
    refine w_if_false rfl (w_skip (sq_n (w_seq (w_seq (w_region (?_))))))
    refine o_ev (ev_fieldAddr rfl) rfl ?_
    refine o_ev (ev_load rfl) rfl ?_
    refine o_ev (ev_lss rfl rfl) rfl ?_
    refine o_split (ev_move rfl) rfl (fun h1 => ?_) (fun h1 => ?_)
    · skip
      try simp only [Za, Zb, Zc, Zd, Ze, Zf, Zg, Zh] at h1
      refine o_off rfl rfl rfl ?_
      refine o_off rfl rfl rfl ?_
      refine o_off rfl rfl rfl ?_
      refine o_ev (ev_pick_t rfl rfl) rfl ?_
      refine o_nil (sq_n (?_))
      refine w_if_true rfl (w_seq (w_region (?_)))
      refine o_ev (ev_assign rfl) rfl ?_
      refine o_ev (ev_assign rfl) rfl ?_
      refine o_nil (sq_n (w_ret (sq_r (?_))))
      refine res_intro (vs := [_, _]) Tryz.results9 (.inr rfl) (.cons (.tmp rfl) (.cons (.tmp rfl) (.nil))) ?_
      exact ⟨_, by (repeat (first | exact Ka | refine Kb ?_ | refine Kc ?_ | refine Kf ?_ | refine Kd ?_ | refine Ke ?_ | refine Kh ?_ | refine Kg rfl ?_ | refine Ki ?_ | refine Kj ?_ | refine Kk ?_ | refine Kl ?_ | refine Km ?_ | refine Kn ?_ | refine Ko ?_)), .inl ⟨1, by rw [packE, if_neg (by rw [hc]; simp), if_pos (by omega)], rfl, rfl, by decide⟩⟩
    · skip
      try simp only [Za, Zb, Zc, Zd, Ze, Zf, Zg, Zh] at h1
      refine o_on_ev rfl rfl rfl (ev_fieldAddr rfl) ?_
      refine o_on_ev rfl rfl rfl (ev_load rfl) ?_
      refine o_on_ev rfl rfl rfl (ev_gtr rfl rfl) ?_
      refine o_ev (ev_pick_f rfl rfl) rfl ?_
      refine o_nil (sq_n (?_))
      refine w_if rfl (fun h2 => ?_) (fun h2 => ?_)
      · skip
        try simp only [Za, Zb, Zc, Zd, Ze, Zf, Zg, Zh] at h2
        refine w_seq (w_region (?_))
        refine o_ev (ev_assign rfl) rfl ?_
        refine o_ev (ev_assign rfl) rfl ?_
        refine o_nil (sq_n (w_ret (sq_r (?_))))
        refine res_intro (vs := [_, _]) Tryz.results9 (.inr rfl) (.cons (.tmp rfl) (.cons (.tmp rfl) (.nil))) ?_
        exact ⟨_, by (repeat (first | exact Ka | refine Kb ?_ | refine Kc ?_ | refine Kf ?_ | refine Kd ?_ | refine Ke ?_ | refine Kh ?_ | refine Kg rfl ?_ | refine Ki ?_ | refine Kj ?_ | refine Kk ?_ | refine Kl ?_ | refine Km ?_ | refine Kn ?_ | refine Ko ?_)), .inl ⟨1, by rw [packE, if_neg (by rw [hc]; simp), if_pos (by omega)], rfl, rfl, by decide⟩⟩
      · skip
        try simp only [Za, Zb, Zc, Zd, Ze, Zf, Zg, Zh] at h2
        refine w_skip (sq_n (w_seq (w_region (?_))))
        have e0 : packE fs next ps = match packPs ps with
          | .error e => .error e
          | .ok bl => .ok (imgP 73 ((1, encS fs) :: (2, uv next.toNat) :: bl)) := by
          rw [packE, if_neg (by rw [hc]; simp), if_neg (by omega)]
          rfl
        have hun := uv_len10 (n := next.toNat) (by omega)
        refine o_ev (ev_move rfl) rfl ?_
        refine o_ev (ev_build (vs := [(0, _), (1, _)]) rfl) rfl ?_
        refine o_ev (ev_fieldAddr rfl) rfl ?_
        refine o_ev (ev_load rfl) rfl ?_
        refine o_st (st_call (vs := [_, _]) rfl (refUvN next.toNat (by omega) (by omega))) rfl ?_
        rintro _ _ ⟨s2, rfl, rfl⟩
        refine o_ev (ev_build (vs := [(0, _), (1, _)]) rfl) rfl ?_
        refine o_st (st_build2 eK rfl rfl rfl) rfl ?_
        rintro _ _ ⟨s3, rfl, rfl⟩
        refine o_ev (ev_assign rfl) rfl ?_
        refine o_nil (sq_n (w_seq (w_seq (w_region (?_)))))
        refine o_ev (ev_assign rfl) rfl ?_
        refine o_nil (sq_n (w_block (?_)))
        refine w_loop (SV × Nat × List (Nat × SV) × List (Nat × List Nat) × Heap) (fun y => y.2.1 ≤ ps.length ∧ BodsIn y.2.2.2.2 H y.2.2.1 ((1, encS fs) :: (2, uv next.toNat) :: y.2.2.2.1) ∧ y.2.2.1.length = 2 * y.2.1 + 2 ∧ packPs ps = glueE y.2.2.2.1 (packPs (ps.drop y.2.1))) (fun y => [(1, .pointer (some ⟨b1, 0, none⟩)), (6, y.1.val), (7, .int .i64 ((y.2.1 : Nat) : Int))]) (fun y => Row y.1 eK y.2.2.1 :: Star y.2.2.2.2 :: Vr b1 [sf.val, .int .i64 next, sp.val] :: H) (fun y => ps.length - y.2.1) ((s3, 0, [(1, s1), (2, s2)], [], [Row s2 eB (uv next.toNat), Row s1 eB (encS fs)])) ?_ ?_ ?_ ?_
        · (try dsimp only)
          refine ⟨Nat.zero_le _, ?_, rfl, ?_⟩
          · have h1 : BodsIn [Row s2 eB (uv next.toNat), Row s1 eB (encS fs)] H ([] ++ [(1, s1)]) ([] ++ [(1, encS fs)]) := (BodsIn.nil (F := [Row s2 eB (uv next.toNat), Row s1 eB (encS fs)])).snoc 1 s1 _ (fun _ _ h => h) (.inl inferInstance)
            exact h1.snoc 2 s2 _ (fun _ _ h => h) (.inl inferInstance)
          · rw [List.drop_zero]
            cases packPs ps with
            | ok r => rfl
            | error e => rfl
        · repeat (first | exact Sub.nil | refine Sub.cons rfl ?_)
        · (try dsimp only)
          refine Kc (HSub.starPut (HSub.starPut (Kk ?_)))
          (repeat (first | exact Ka | refine Kb ?_ | refine Kc ?_ | refine Kf ?_ | refine Kd ?_ | refine Ke ?_ | refine Kh ?_ | refine Kg rfl ?_ | refine Ki ?_ | refine Kj ?_ | refine Kk ?_ | refine Kl ?_ | refine Km ?_ | refine Kn ?_ | refine Ko ?_))
        · rintro ⟨s, i, l, bl, F⟩ ⟨hi, hB, hl, hI⟩
          (try dsimp only at *)
          refine w_seq (w_seq (w_region (?_)))
          refine o_ev (ev_move rfl) rfl ?_
          refine o_ev (ev_fieldAddr rfl) rfl ?_
          refine o_ev (ev_load rfl) rfl ?_
          refine o_ev (ev_len1 rfl) rfl ?_
          refine o_ev (ev_lss rfl rfl) rfl ?_
          refine o_nil (sq_n (?_))
          refine w_if rfl (fun h3 => ?_) (fun h3 => ?_)
          · skip
            try simp only [Za, Zb, Zc, Zd, Ze, Zf, Zg, Zh] at h3
            obtain ⟨p, hp⟩ : ∃ p, lp[i]? = some p := ⟨_, List.getElem?_eq_getElem (by omega)⟩
            obtain ⟨q, hq⟩ : ∃ q, ps[i]? = some q := ⟨_, List.getElem?_eq_getElem (by omega)⟩
            obtain ⟨hS1, hS2⟩ := hin i p q hp hq
            obtain ⟨k1, k2, k3, k4⟩ := hk q (List.mem_of_getElem? hq)
            rw [drop_get hq, packPs] at hI
            refine w_skip (sq_n (w_seq (w_block (w_seq (w_region (?_))))))
            refine o_ev (ev_fieldAddr rfl) rfl ?_
            refine o_ev (ev_load rfl) rfl ?_
            refine o_ev (ev_move rfl) rfl ?_
            refine o_ev (ev_indexAddr rfl rfl i rfl (by omega)) rfl ?_
            refine o_ev (ev_fieldAddr_elt rfl (by omega)) rfl ?_
            refine o_ev (ev_load_fl rfl (by rfl) p hp (by rfl)) rfl ?_
            refine o_ev (ev_assign rfl) rfl ?_
            refine o_nil (sq_n (w_seq (w_seq (w_region (?_)))))
            refine o_ev (ev_assign rfl) rfl ?_
            refine o_nil (sq_n (w_block (?_)))
            refine w_loop (Nat) (fun k => k ≤ q.2.length ∧ ∀ j x, j < k → q.2[j]? = some x → 0 ≤ x) (fun k => [(1, .pointer (some ⟨b1, 0, none⟩)), (6, s.val), (7, .int .i64 ((i : Nat) : Int)), (8, p.2.val), (9, .int .i64 ((k : Nat) : Int))]) (fun _ => Row s eK l :: Star F :: Vr b1 [sf.val, .int .i64 next, sp.val] :: H) (fun k => q.2.length - k) (0) ?_ ?_ ?_ ?_
            · (try dsimp only)
              exact ⟨Nat.zero_le _, fun j x h => absurd h (Nat.not_lt_zero _)⟩
            · repeat (first | exact Sub.nil | refine Sub.cons rfl ?_)
            · (try dsimp only)
              (repeat (first | exact Ka | refine Kb ?_ | refine Kc ?_ | refine Kf ?_ | refine Kd ?_ | refine Ke ?_ | refine Kh ?_ | refine Kg rfl ?_ | refine Ki ?_ | refine Kj ?_ | refine Kk ?_ | refine Kl ?_ | refine Km ?_ | refine Kn ?_ | refine Ko ?_))
            · rintro k ⟨hk1, hall⟩
              (try dsimp only at *)
              refine w_seq (w_seq (w_region (?_)))
              refine o_ev (ev_move rfl) rfl ?_
              refine o_ev (ev_move rfl) rfl ?_
              refine o_ev (ev_len1 rfl) rfl ?_
              refine o_ev (ev_lss rfl rfl) rfl ?_
              refine o_nil (sq_n (?_))
              refine w_if rfl (fun h4 => ?_) (fun h4 => ?_)
              · skip
                try simp only [Za, Zb, Zc, Zd, Ze, Zf, Zg, Zh] at h4
                obtain ⟨x, hx⟩ : ∃ x, q.2[k]? = some x := ⟨_, List.getElem?_eq_getElem (by omega)⟩
                refine w_skip (sq_n (w_seq (w_block (w_seq (w_region (?_))))))
                refine o_ev (ev_move rfl) rfl ?_
                refine o_ev (ev_move rfl) rfl ?_
                refine o_ev (ev_indexAddr rfl rfl k rfl (by omega)) rfl ?_
                refine o_ev (ev_load_el rfl (by rfl) (by rfl) _ (by first | assumption | rfl | exact List.getElem?_eq_getElem (by omega))) rfl ?_
                refine o_ev (ev_lss rfl rfl) rfl ?_
                refine o_nil (sq_n (?_))
                refine w_if rfl (fun h5 => ?_) (fun h5 => ?_)
                · skip
                  try simp only [Za, Zb, Zc, Zd, Ze, Zf, Zg, Zh] at h5
                  refine w_seq (w_region (?_))
                  refine o_ev (ev_assign rfl) rfl ?_
                  refine o_ev (ev_assign rfl) rfl ?_
                  refine o_nil (sq_n (w_ret (bk_r (sq_r (lq_r (bk_r (sq_r (bk_r (sq_r (lq_r (bk_r (sq_r (?_)))))))))))))
                  refine res_intro (vs := [_, _]) Tryz.results9 (.inr rfl) (.cons (.tmp rfl) (.cons (.tmp rfl) (.nil))) ?_
                  exact ⟨_, by (repeat (first | exact Ka | refine Kb ?_ | refine Kc ?_ | refine Kf ?_ | refine Kd ?_ | refine Ke ?_ | refine Kh ?_ | refine Kg rfl ?_ | refine Ki ?_ | refine Kj ?_ | refine Kk ?_ | refine Kl ?_ | refine Km ?_ | refine Kn ?_ | refine Ko ?_)), .inl ⟨1, by rw [e0, hI, if_pos (below_true hx (by assumption))]; rfl, rfl, rfl, by decide⟩⟩
                · skip
                  try simp only [Za, Zb, Zc, Zd, Ze, Zf, Zg, Zh] at h5
                  refine w_skip (bk_n (sq_n (w_region (?_))))
                  refine o_ev (ev_move rfl) rfl ?_
                  refine o_ev (ev_add rfl rfl (by omega)) rfl ?_
                  refine o_ev (ev_assign rfl) rfl ?_
                  refine o_nil (?_)
                  skip
                  refine lq_n (k + 1) ?_ ?_ ?_ ?_
                  · (try dsimp only)
                    refine ⟨by omega, fun j y hj hy => ?_⟩
                    rcases Nat.lt_or_eq_of_le (Nat.le_of_lt_succ hj) with h | rfl
                    · exact hall j y h hy
                    · rw [hx] at hy; cases hy; omega
                  · (try dsimp only)
                    omega
                  · repeat (first | exact Sub.nil | refine Sub.cons rfl ?_)
                  · (try dsimp only)
                    (repeat (first | exact Ka | refine Kb ?_ | refine Kc ?_ | refine Kf ?_ | refine Kd ?_ | refine Ke ?_ | refine Kh ?_ | refine Kg rfl ?_ | refine Ki ?_ | refine Kj ?_ | refine Kk ?_ | refine Kl ?_ | refine Km ?_ | refine Kn ?_ | refine Ko ?_))
              · skip
                try simp only [Za, Zb, Zc, Zd, Ze, Zf, Zg, Zh] at h4
                have hb : below q.2 = false := (below_iff q.2).2 fun j x hx => hall j x (by have := (List.getElem?_eq_some_iff.1 hx).1; omega) hx
                rw [if_neg (by rw [hb]; simp)] at hI
                refine w_exit (sq_e (lq_e (bk_h (sq_n (w_seq (w_seq (w_region (?_))))))))
                refine o_ev (ev_assign rfl) rfl ?_
                refine o_nil (sq_n (w_block (?_)))
                refine w_loop (Nat) (fun k => 1 ≤ k ∧ (1 < k → k ≤ q.2.length) ∧ ∀ j x y, j + 1 < k → q.2[j]? = some x → q.2[j + 1]? = some y → x < y) (fun k => [(1, .pointer (some ⟨b1, 0, none⟩)), (6, s.val), (7, .int .i64 ((i : Nat) : Int)), (8, p.2.val), (10, .int .i64 ((k : Nat) : Int))]) (fun _ => Row s eK l :: Star F :: Vr b1 [sf.val, .int .i64 next, sp.val] :: H) (fun k => q.2.length - k) (1) ?_ ?_ ?_ ?_
                · (try dsimp only)
                  exact ⟨Nat.le_refl _, fun h => absurd h (Nat.lt_irrefl _), fun j x y h => by omega⟩
                · repeat (first | exact Sub.nil | refine Sub.cons rfl ?_)
                · (try dsimp only)
                  (repeat (first | exact Ka | refine Kb ?_ | refine Kc ?_ | refine Kf ?_ | refine Kd ?_ | refine Ke ?_ | refine Kh ?_ | refine Kg rfl ?_ | refine Ki ?_ | refine Kj ?_ | refine Kk ?_ | refine Kl ?_ | refine Km ?_ | refine Kn ?_ | refine Ko ?_))
                · rintro k2 ⟨hj1, hj2, hall2⟩
                  (try dsimp only at *)
                  refine w_seq (w_seq (w_region (?_)))
                  refine o_ev (ev_move rfl) rfl ?_
                  refine o_ev (ev_move rfl) rfl ?_
                  refine o_ev (ev_len1 rfl) rfl ?_
                  refine o_ev (ev_lss rfl rfl) rfl ?_
                  refine o_nil (sq_n (?_))
                  refine w_if rfl (fun h6 => ?_) (fun h6 => ?_)
                  · skip
                    try simp only [Za, Zb, Zc, Zd, Ze, Zf, Zg, Zh] at h6
                    obtain ⟨x, hx⟩ : ∃ x, q.2[k2 - 1]? = some x := ⟨_, List.getElem?_eq_getElem (by omega)⟩
                    obtain ⟨y, hy⟩ : ∃ y, q.2[k2]? = some y := ⟨_, List.getElem?_eq_getElem (by omega)⟩
                    refine w_skip (sq_n (w_seq (w_block (w_seq (?_)))))
                    refine w_still Tryz_mixed ?_
                    refine an_first 0 rfl rfl (by kernel_rfl) rfl (qv_at (ev_move rfl)) ?_
                    refine an_first 1 rfl rfl (by kernel_rfl) rfl (qv_at (ev_move rfl)) ?_
                    refine an_first 2 rfl rfl (by kernel_rfl) rfl (qv_at (ev_indexAddr rfl rfl k2 rfl (by omega))) ?_
                    refine an_first 3 rfl rfl (by kernel_rfl) rfl (qv_at (ev_load_el rfl (by rfl) (by rfl) y hy)) ?_
                    refine an_first 4 rfl rfl (by kernel_rfl) rfl (qv_at (ev_move rfl)) ?_
                    refine an_first 5 rfl rfl (by kernel_rfl) rfl (qv_at (ev_move rfl)) ?_
                    refine an_first 6 rfl rfl (by kernel_rfl) rfl (qv_at (ev_sub rfl rfl (by omega))) ?_
                    refine an_first 7 rfl rfl (by kernel_rfl) rfl (qv_at (ev_indexAddr rfl rfl (k2 - 1) (by omega) (by omega))) ?_
                    refine an_first 8 rfl rfl (by kernel_rfl) rfl (qv_at (ev_load_el rfl (by rfl) (by rfl) x hx)) ?_
                    refine an_first 9 rfl rfl (by kernel_rfl) rfl (qv_at (ev_leq rfl rfl)) ?_
                    refine an_nil (by kernel_rfl) (fun _ _ => rfl) (sq_n (?_))
                    refine w_if rfl (fun h7 => ?_) (fun h7 => ?_)
                    · skip
                      try simp only [Za, Zb, Zc, Zd, Ze, Zf, Zg, Zh] at h7
                      refine w_seq (w_region (?_))
                      refine o_ev (ev_assign rfl) rfl ?_
                      refine o_ev (ev_assign rfl) rfl ?_
                      refine o_nil (sq_n (w_ret (bk_r (sq_r (lq_r (bk_r (sq_r (bk_r (sq_r (lq_r (bk_r (sq_r (?_)))))))))))))
                      refine res_intro (vs := [_, _]) Tryz.results9 (.inr rfl) (.cons (.tmp rfl) (.cons (.tmp rfl) (.nil))) ?_
                      have hr : rise q.2 = false := by
                        rw [← Bool.not_eq_true, rise_iff]
                        intro hall
                        have := hall (k2 - 1) x y hx (by rw [Nat.sub_add_cancel hj1]; exact hy)
                        omega
                      exact ⟨_, by (repeat (first | exact Ka | refine Kb ?_ | refine Kc ?_ | refine Kf ?_ | refine Kd ?_ | refine Ke ?_ | refine Kh ?_ | refine Kg rfl ?_ | refine Ki ?_ | refine Kj ?_ | refine Kk ?_ | refine Kl ?_ | refine Km ?_ | refine Kn ?_ | refine Ko ?_)), .inl ⟨5, by rw [e0, hI, if_pos hr]; rfl, rfl, rfl, by decide⟩⟩
                    · skip
                      try simp only [Za, Zb, Zc, Zd, Ze, Zf, Zg, Zh] at h7
                      refine w_skip (bk_n (sq_n (w_region (?_))))
                      refine o_ev (ev_move rfl) rfl ?_
                      refine o_ev (ev_add rfl rfl (by omega)) rfl ?_
                      refine o_ev (ev_assign rfl) rfl ?_
                      refine o_nil (?_)
                      skip
                      refine lq_n (k2 + 1) ?_ ?_ ?_ ?_
                      · (try dsimp only)
                        refine ⟨by omega, fun _ => by omega, fun j a c hj ha hc => ?_⟩
                        rcases Nat.lt_or_eq_of_le (Nat.le_of_lt_succ hj) with h | h
                        · exact hall2 j a c h ha hc
                        · obtain rfl : j = k2 - 1 := by omega
                          rw [hx] at ha
                          rw [Nat.sub_add_cancel hj1, hy] at hc
                          cases ha; cases hc; omega
                      · (try dsimp only)
                        omega
                      · repeat (first | exact Sub.nil | refine Sub.cons rfl ?_)
                      · (try dsimp only)
                        (repeat (first | exact Ka | refine Kb ?_ | refine Kc ?_ | refine Kf ?_ | refine Kd ?_ | refine Ke ?_ | refine Kh ?_ | refine Kg rfl ?_ | refine Ki ?_ | refine Kj ?_ | refine Kk ?_ | refine Kl ?_ | refine Km ?_ | refine Kn ?_ | refine Ko ?_))
                  · skip
                    try simp only [Za, Zb, Zc, Zd, Ze, Zf, Zg, Zh] at h6
                    have hri : rise q.2 = true := (rise_iff q.2).2 fun j x y hx hy => hall2 j x y (by have := (List.getElem?_eq_some_iff.1 hy).1; omega) hx hy
                    rw [if_neg (by rw [hri]; simp)] at hI
                    refine w_exit (sq_e (lq_e (bk_h (sq_n (w_seq (w_region (?_)))))))
                    refine o_ev (ev_move rfl) rfl ?_
                    refine o_ev (ev_fieldAddr rfl) rfl ?_
                    refine o_ev (ev_load rfl) rfl ?_
                    refine o_ev (ev_move rfl) rfl ?_
                    refine o_ev (ev_indexAddr rfl rfl i rfl (by omega)) rfl ?_
                    refine o_ev (ev_fieldAddr_elt rfl (by omega)) rfl ?_
                    refine o_ev (ev_load_fl rfl (by rfl) p hp (by rfl)) rfl ?_
                    refine o_ev (ev_build (vs := [(0, _), (1, _)]) rfl) rfl ?_
                    refine o_st (st_build1 eK rfl rfl) rfl ?_
                    rintro _ _ ⟨s4, rfl, rfl⟩
                    refine o_st (st_append rfl rfl rfl rfl (by simp only [List.length_cons, List.length_nil]; omega) (by simp only [List.length_cons, List.length_nil]; omega)) rfl ?_
                    rintro _ _ ⟨s5, rfl, rfl⟩
                    refine o_ev (ev_assign rfl) rfl ?_
                    refine o_nil (sq_n (w_region (?_)))
                    refine o_ev (ev_move rfl) rfl ?_
                    refine o_ev (ev_move rfl) rfl ?_
                    refine o_st (st_call (vs := [_]) rfl (refDead (l := q.2) (by omega) hb hri k3)) rfl ?_
                    rintro _ _ ⟨s6, rfl, rfl⟩
                    refine o_ev (ev_build (vs := [(0, _), (1, _)]) rfl) rfl ?_
                    refine o_st (st_build1 eK rfl rfl) rfl ?_
                    rintro _ _ ⟨s7, rfl, rfl⟩
                    refine o_st (st_append rfl rfl rfl rfl (by simp only [List.length_append, List.length_cons, List.length_nil]; omega) (by simp only [List.length_append, List.length_cons, List.length_nil]; omega)) rfl ?_
                    rintro _ _ ⟨s8, rfl, rfl⟩
                    refine o_ev (ev_assign rfl) rfl ?_
                    refine o_nil (bk_n (sq_n (w_region (?_))))
                    refine o_ev (ev_move rfl) rfl ?_
                    refine o_ev (ev_add rfl rfl (by omega)) rfl ?_
                    refine o_ev (ev_assign rfl) rfl ?_
                    refine o_nil (?_)
                    skip
                    refine lq_n ((s8, i + 1, l ++ [(3, p.1)] ++ [(4, s6)], bl ++ [(3, q.1), (4, uv q.2.length ++ riseB (-1) q.2)], Row s6 eB (uv q.2.length ++ riseB (-1) q.2) :: F)) ?_ ?_ ?_ ?_
                    · (try dsimp only)
                      refine ⟨by omega, ?_, by simp only [List.length_append, List.length_cons, List.length_nil]; omega, ?_⟩
                      · have h1 := (hB.snoc (F' := Row s6 eB (uv q.2.length ++ riseB (-1) q.2) :: F) 3 p.1 q.1 (fun _ _ h => inferInstance) (.inr hS1)).snoc (F' := Row s6 eB (uv q.2.length ++ riseB (-1) q.2) :: F) 4 s6 (uv q.2.length ++ riseB (-1) q.2) (fun _ _ h => h) (.inl inferInstance)
                        simpa using h1
                      · rw [hI]
                        cases packPs (ps.drop (i + 1)) with
                        | ok r => simp [glueE]
                        | error e => rfl
                    · (try dsimp only)
                      omega
                    · repeat (first | exact Sub.nil | refine Sub.cons rfl ?_)
                    · (try dsimp only)
                      (repeat (first | exact Ka | refine Kb ?_ | refine Kc ?_ | refine Kf ?_ | refine Kd ?_ | refine Ke ?_ | refine Kh ?_ | refine Kg rfl ?_ | refine Ki ?_ | refine Kj ?_ | refine Kk ?_ | refine Kl ?_ | refine Km ?_ | refine Kn ?_ | refine Ko ?_))
          · skip
            try simp only [Za, Zb, Zc, Zd, Ze, Zf, Zg, Zh] at h3
            obtain rfl : i = ps.length := by omega
            rw [List.drop_of_length_le (Nat.le_refl _), packPs] at hI
            have hI' : packPs ps = .ok bl := by rw [hI]; simp [glueE]
            obtain ⟨m1, m2⟩ := packPs_len ps bl hk hI'
            obtain ⟨n1, n2, n3⟩ := packPs_ok ps bl hk hI'
            have hall : ∀ q ∈ (1, encS fs) :: (2, uv next.toNat) :: bl, 0 < q.1 ∧ q.1 < 256 ∧ ∀ x ∈ q.2, x < 256 := by
              intro q hq
              rcases List.mem_cons.1 hq with rfl | hq
              · exact ⟨by simp, by simp, encS_lt hc⟩
              · rcases List.mem_cons.1 hq with rfl | hq
                · exact ⟨by simp, by simp, uv_lt _⟩
                · exact ⟨(n3 q hq).1, (n3 q hq).2.1, (n3 q hq).2.2.1⟩
            have hel : (encAll ((1, encS fs) :: (2, uv next.toNat) :: bl)).length ≤ 1000000000 := by
              have hu1 := uv_len10 (n := (encS fs).length) (by omega)
              have hu2 := uv_len10 (n := (uv next.toNat).length) (by omega)
              rw [show encAll ((1, encS fs) :: (2, uv next.toNat) :: bl) = encB 1 (encS fs) ++ (encB 2 (uv next.toNat) ++ encAll bl) by simp [encAll], List.length_append, List.length_append, encB_len, encB_len]
              omega
            refine w_exit (sq_e (lq_e (bk_h (sq_n (w_seq (w_region (?_)))))))
            refine o_ev (ev_move rfl) rfl ?_
            refine o_st (st_call (vs := [_, _]) rfl (refPack2 (bl := (1, encS fs) :: (2, uv next.toNat) :: bl) 73 (by decide) (by decide) (hB.bods2 (fun _ _ h => inferInstance) (fun _ _ h => inferInstance)) hall hel (by simp only [List.length_cons]; omega))) rfl ?_
            rintro _ _ ⟨s5, rfl, rfl⟩
            refine o_ev (ev_extract1 rfl rfl) rfl ?_
            refine o_ev (ev_extract1 rfl rfl) rfl ?_
            refine o_ev (ev_assign rfl) rfl ?_
            refine o_ev (ev_assign rfl) rfl ?_
            refine o_nil (sq_n (w_ret (?_)))
            refine res_intro (vs := [_, _]) Tryz.results9 (.inr rfl) (.cons (.tmp rfl) (.cons (.tmp rfl) (.nil))) ?_
            exact ⟨_, by (repeat (first | exact Ka | refine Kb ?_ | refine Kc ?_ | refine Kf ?_ | refine Kd ?_ | refine Ke ?_ | refine Kh ?_ | refine Kg rfl ?_ | refine Ki ?_ | refine Kj ?_ | refine Kk ?_ | refine Kl ?_ | refine Km ?_ | refine Kn ?_ | refine Ko ?_)), .inr ⟨_, s5, by rw [e0, hI'], rfl, rfl⟩⟩
end Go.Sx
namespace Go.Sx
open Go Go.Proofs
set_option maxRecDepth 100000
set_option linter.unusedSimpArgs false
set_option linter.unusedVariables false

/-! ## Are two alike? -/
theorem bytesEq {G : Base} {H : Heap} {s s2 : SV} {xs ys : List Nat} [Sl H s eB xs] [Sl H s2 eB ys] (hx : ∀ x ∈ xs, x < 256) (hy : ∀ x ∈ ys, x < 256) : SC G Tryz.prog 13 [s.val, s2.val] H (fun v H' => v = .bool (decide (xs = ys)) ∧ H' = H) := by
  refine SC.out (sc_walk Tryz.func13 rfl Tryz.ntmps13 (by kernel_rfl) (Nat.le_of_ble_eq_true rfl) ?_)
  refine w_seq (w_region (?_))
  refine o_ev (ev_assign rfl) rfl ?_
  refine o_nil (sq_n (w_seq (w_region (?_))))
  refine o_ev (ev_move rfl) rfl ?_
  refine o_ev (ev_bytesToString rfl) rfl ?_
  refine o_ev (ev_move rfl) rfl ?_
  refine o_ev (ev_bytesToString rfl) rfl ?_
  refine o_ev (ev_eql_str rfl rfl) rfl ?_
  refine o_ev (ev_assign rfl) rfl ?_
  refine o_nil (sq_n (w_ret (?_)))
  refine res_intro (vs := [_]) Tryz.results13 (.inr rfl) (.cons (.tmp rfl) (.nil)) ?_
  exact ⟨_, Ka, by rw [byts_strB hx, byts_strB hy]; rfl, rfl⟩

theorem ext_below {α : Type} {xs ys : List α} (hl : xs.length = ys.length) (h : ∀ j, j < xs.length → xs[j]? = ys[j]?) : xs = ys := by
  apply List.ext_getElem?
  intro j
  by_cases hj : j < xs.length
  · exact h j hj
  · rw [List.getElem?_eq_none (by omega), List.getElem?_eq_none (by omega)]
theorem intsEq {G : Base} {H : Heap} {s s2 : SV} {xs ys : List Int} [Sl H s eI xs] [Sl H s2 eI ys] (hn : xs.length ≤ 1000000000000) : SC G Tryz.prog 42 [s.val, s2.val] H (fun v H' => v = .bool (decide (xs = ys)) ∧ H' = H) := by
  refine SC.out (sc_walk Tryz.func42 rfl Tryz.ntmps42 (by kernel_rfl) (Nat.le_of_ble_eq_true rfl) ?_)
  refine w_seq (w_region (?_))
  refine o_ev (ev_assign rfl) rfl ?_
  refine o_nil (sq_n (w_seq (w_seq (w_region (?_)))))
  refine o_ev (ev_move rfl) rfl ?_
  refine o_ev (ev_len1 rfl) rfl ?_
  refine o_ev (ev_move rfl) rfl ?_
  refine o_ev (ev_len1 rfl) rfl ?_
  refine o_ev (ev_neq rfl rfl) rfl ?_
  refine o_nil (sq_n (?_))
  refine w_if rfl (fun h1 => ?_) (fun h1 => ?_)
  · skip
    try simp only [Za, Zb, Zc, Zd, Ze, Zf, Zg, Zh] at h1
    refine w_seq (w_region (?_))
    refine o_ev (ev_assign rfl) rfl ?_
    refine o_nil (sq_n (w_ret (sq_r (?_))))
    refine res_intro (vs := [_]) Tryz.results42 (.inr rfl) (.cons (.tmp rfl) (.nil)) ?_
    exact ⟨_, Ka, by rw [decide_eq_false (by rintro rfl; omega)]; rfl, rfl⟩
  · skip
    try simp only [Za, Zb, Zc, Zd, Ze, Zf, Zg, Zh] at h1
    refine w_skip (sq_n (w_seq (w_seq (w_region (?_)))))
    refine o_ev (ev_move rfl) rfl ?_
    refine o_ev (ev_len1 rfl) rfl ?_
    refine o_ev (ev_move rfl) rfl ?_
    refine o_nil (sq_n (w_block (?_)))
    refine w_loop (Nat) (fun i => i ≤ xs.length ∧ xs.length = ys.length ∧ ∀ j, j < i → xs[j]? = ys[j]?) (fun i => [(0, s.val), (1, s2.val), (12, .int .i64 ((xs.length : Nat) : Int)), (13, .int .i64 ((i : Nat) : Int))]) (fun _ => H) (fun i => xs.length - i) (0) ?_ ?_ ?_ ?_
    · (try dsimp only)
      exact ⟨Nat.zero_le _, by omega, fun j h => absurd h (Nat.not_lt_zero _)⟩
    · repeat (first | exact Sub.nil | refine Sub.cons rfl ?_)
    · (try dsimp only)
      (repeat (first | exact Ka | refine Kb ?_ | refine Kc ?_ | refine Kf ?_ | refine Kd ?_ | refine Ke ?_ | refine Kh ?_ | refine Kg rfl ?_ | refine Ki ?_ | refine Kj ?_ | refine Kk ?_ | refine Kl ?_ | refine Km ?_ | refine Kn ?_ | refine Ko ?_))
    · rintro i ⟨hi, hl, hall⟩
      (try dsimp only at *)
      refine w_seq (w_region (?_))
      refine o_ev (ev_lss rfl rfl) rfl ?_
      refine o_nil (sq_n (w_seq (?_)))
      refine w_if rfl (fun h2 => ?_) (fun h2 => ?_)
      · skip
        try simp only [Za, Zb, Zc, Zd, Ze, Zf, Zg, Zh] at h2
        obtain ⟨x, hx⟩ : ∃ x, xs[i]? = some x := ⟨_, List.getElem?_eq_getElem (by omega)⟩
        obtain ⟨y, hy⟩ : ∃ x, ys[i]? = some x := ⟨_, List.getElem?_eq_getElem (by omega)⟩
        refine w_skip (sq_n (w_seq (w_block (w_seq (w_region (?_))))))
        refine o_ev (ev_move rfl) rfl ?_
        refine o_ev (ev_assign rfl) rfl ?_
        refine o_nil (sq_n (w_seq (?_)))
        refine w_still Tryz_mixed ?_
        refine an_first 0 rfl rfl (by kernel_rfl) rfl (qv_at (ev_move rfl)) ?_
        refine an_first 1 rfl rfl (by kernel_rfl) rfl (qv_at (ev_move rfl)) ?_
        refine an_first 2 rfl rfl (by kernel_rfl) rfl (qv_at (ev_indexAddr rfl rfl i rfl (by omega))) ?_
        refine an_first 3 rfl rfl (by kernel_rfl) rfl (qv_at (ev_load_el rfl (by rfl) (by rfl) x hx)) ?_
        refine an_first 4 rfl rfl (by kernel_rfl) rfl (qv_at (ev_move rfl)) ?_
        refine an_first 5 rfl rfl (by kernel_rfl) rfl (qv_at (ev_move rfl)) ?_
        refine an_first 6 rfl rfl (by kernel_rfl) rfl (qv_at (ev_indexAddr rfl rfl i rfl (by omega))) ?_
        refine an_first 7 rfl rfl (by kernel_rfl) rfl (qv_at (ev_load_el rfl (by rfl) (by rfl) y hy)) ?_
        refine an_first 8 rfl rfl (by kernel_rfl) rfl (qv_at (ev_neq rfl rfl)) ?_
        refine an_nil (by kernel_rfl) (fun _ _ => rfl) (sq_n (?_))
        refine w_if rfl (fun h3 => ?_) (fun h3 => ?_)
        · skip
          try simp only [Za, Zb, Zc, Zd, Ze, Zf, Zg, Zh] at h3
          refine w_seq (w_region (?_))
          refine o_ev (ev_assign rfl) rfl ?_
          refine o_nil (sq_n (w_ret (bk_r (sq_r (lq_r (bk_r (sq_r (?_))))))))
          refine res_intro (vs := [_]) Tryz.results42 (.inr rfl) (.cons (.tmp rfl) (.nil)) ?_
          exact ⟨_, Ka, by rw [decide_eq_false (by rintro rfl; rw [hx] at hy; cases hy; first | omega | contradiction)]; rfl, rfl⟩
        · skip
          try simp only [Za, Zb, Zc, Zd, Ze, Zf, Zg, Zh] at h3
          refine w_skip (bk_n (sq_n (w_region (?_))))
          refine o_ev (ev_add rfl rfl (by omega)) rfl ?_
          refine o_ev (ev_move rfl) rfl ?_
          refine o_nil (?_)
          skip
          refine lq_n (i + 1) ?_ ?_ ?_ ?_
          · (try dsimp only)
            refine ⟨by omega, hl, fun j hj => ?_⟩
            rcases Nat.lt_or_eq_of_le (Nat.le_of_lt_succ hj) with h | rfl
            · exact hall j h
            · rw [hx, hy, show x = y by omega]
          · (try dsimp only)
            omega
          · repeat (first | exact Sub.nil | refine Sub.cons rfl ?_)
          · (try dsimp only)
            (repeat (first | exact Ka | refine Kb ?_ | refine Kc ?_ | refine Kf ?_ | refine Kd ?_ | refine Ke ?_ | refine Kh ?_ | refine Kg rfl ?_ | refine Ki ?_ | refine Kj ?_ | refine Kk ?_ | refine Kl ?_ | refine Km ?_ | refine Kn ?_ | refine Ko ?_))
      · skip
        try simp only [Za, Zb, Zc, Zd, Ze, Zf, Zg, Zh] at h2
        obtain rfl : i = xs.length := by omega
        refine w_exit (sq_e (lq_e (bk_h (sq_n (w_seq (w_region (?_)))))))
        refine o_ev (ev_assign rfl) rfl ?_
        refine o_nil (sq_n (w_ret (?_)))
        refine res_intro (vs := [_]) Tryz.results42 (.inr rfl) (.cons (.tmp rfl) (.nil)) ?_
        exact ⟨_, Ka, by rw [decide_eq_true (ext_below hl hall)]; rfl, rfl⟩

instance : DecidableEq FV := fun a b =>
  if h : a.name = b.name ∧ a.kind = b.kind ∧ a.fold = b.fold ∧ a.stop = b.stop ∧ a.stem = b.stem then
    .isTrue (by cases a; cases b; simp only [FV.mk.injEq] at h ⊢; exact h)
  else .isFalse (fun e => h (by rw [e]; exact ⟨rfl, rfl, rfl, rfl, rfl⟩))
end Go.Sx
