import Derived.Test.YtcbidldebfibkaaGreatDoorW24
set_option linter.unusedVariables false
set_option linter.unusedSimpArgs false
set_option linter.unusedSectionVars false
set_option linter.unnecessarySimpa false
namespace Go.Sx
open Go Go.Proofs
set_option maxRecDepth 100000
set_option linter.unusedSimpArgs false
set_option linter.unusedVariables false

/-! ## The reference's schemas -/
theorem refGoodName {G : Base} {H : Heap} (s : ByteArray) (hn : s.size ≤ 1000000000000) : SC G Tryz.prog 111 [.string s] H (fun v H' => v = .bool (goodN (byts s)) ∧ H' = H) := by
  have hs := byts_length s
  refine SC.out (sc_walk Tryz.func111 rfl Tryz.ntmps111 (by kernel_rfl) (Nat.le_of_ble_eq_true rfl) ?_)
  refine w_seq (w_region (?_))
  refine o_ev (ev_assign rfl) rfl ?_
  refine o_nil (sq_n (w_seq (w_seq (w_region (?_)))))
  refine o_ev (ev_move rfl) rfl ?_
  refine o_ev (ev_len_str1 rfl) rfl ?_
  refine o_ev (ev_lss rfl rfl) rfl ?_
  refine o_split (ev_move rfl) rfl (fun h1 => ?_) (fun h1 => ?_)
  · skip
    try simp only [Za, Zb, Zc, Zd, Ze, Zf, Zg, Zh] at h1
    refine o_off rfl rfl rfl ?_
    refine o_off rfl rfl rfl ?_
    refine o_off rfl rfl rfl ?_
    refine o_ev (ev_pick_t rfl rfl) rfl ?_
    refine o_nil (sq_n (?_))
    refine w_if_true rfl (w_seq (w_region (?_)))
    refine o_ev (ev_assign rfl) rfl ?_
    refine o_nil (sq_n (w_ret (sq_r (?_))))
    refine res_intro (vs := [_]) Tryz.results111 (.inr rfl) (.cons (.tmp rfl) (.nil)) ?_
    have e : goodN (byts s) = false := by unfold goodN; rw [decide_eq_false (by omega)]; rfl
    exact ⟨_, Ka, by rw [e]; rfl, rfl⟩
  · skip
    try simp only [Za, Zb, Zc, Zd, Ze, Zf, Zg, Zh] at h1
    refine o_on_ev rfl rfl rfl (ev_move rfl) ?_
    refine o_on_ev rfl rfl rfl (ev_len_str1 rfl) ?_
    refine o_on_ev rfl rfl rfl (ev_gtr rfl rfl) ?_
    refine o_ev (ev_pick_f rfl rfl) rfl ?_
    refine o_nil (sq_n (?_))
    refine w_if rfl (fun h2 => ?_) (fun h2 => ?_)
    · skip
      try simp only [Za, Zb, Zc, Zd, Ze, Zf, Zg, Zh] at h2
      refine w_seq (w_region (?_))
      refine o_ev (ev_assign rfl) rfl ?_
      refine o_nil (sq_n (w_ret (sq_r (?_))))
      refine res_intro (vs := [_]) Tryz.results111 (.inr rfl) (.cons (.tmp rfl) (.nil)) ?_
      have e : goodN (byts s) = false := by unfold goodN; rw [decide_eq_false (by omega)]; rfl
      exact ⟨_, Ka, by rw [e]; rfl, rfl⟩
    · skip
      try simp only [Za, Zb, Zc, Zd, Ze, Zf, Zg, Zh] at h2
      have e : goodN (byts s) = chAll 0 (byts s) := by unfold goodN; rw [decide_eq_true (by omega)]; rfl
      refine w_skip (sq_n (w_seq (w_seq (w_region (?_)))))
      refine o_ev (ev_assign rfl) rfl ?_
      refine o_nil (sq_n (w_block (?_)))
      refine w_loop (Nat) (fun i => i ≤ s.size ∧ goodN (byts s) = chAll i ((byts s).drop i)) (fun i => [(0, .string s), (3, .int .i64 ((i : Nat) : Int))]) (fun _ => H) (fun i => s.size - i) (0) ?_ ?_ ?_ ?_
      · (try dsimp only)
        exact ⟨Nat.zero_le _, by rw [e, List.drop_zero]⟩
      · repeat (first | exact Sub.nil | refine Sub.cons rfl ?_)
      · (try dsimp only)
        (repeat (first | exact Ka | refine Kb ?_ | refine Kc ?_ | refine Kf ?_ | refine Kd ?_ | refine Ke ?_ | refine Kh ?_ | refine Kg rfl ?_ | refine Ki ?_ | refine Kj ?_ | refine Kk ?_ | refine Kl ?_ | refine Km ?_ | refine Kn ?_ | refine Ko ?_))
      · rintro i ⟨hi, hI⟩
        (try dsimp only at *)
        refine w_seq (w_seq (w_region (?_)))
        refine o_ev (ev_move rfl) rfl ?_
        refine o_ev (ev_move rfl) rfl ?_
        refine o_ev (ev_len_str1 rfl) rfl ?_
        refine o_ev (ev_lss rfl rfl) rfl ?_
        refine o_nil (sq_n (?_))
        refine w_if rfl (fun h3 => ?_) (fun h3 => ?_)
        · skip
          try simp only [Za, Zb, Zc, Zd, Ze, Zf, Zg, Zh] at h3
          obtain ⟨c, hc⟩ : ∃ c, (byts s)[i]? = some c := ⟨_, List.getElem?_eq_getElem (by omega)⟩
          rw [drop_get hc, chAll] at hI
          refine w_skip (sq_n (w_seq (w_block (w_seq (w_region (?_))))))
          refine o_ev (ev_move rfl) rfl ?_
          refine o_ev (ev_move rfl) rfl ?_
          refine o_ev (ev_index_str rfl rfl _ rfl _ (by first | assumption | rfl | exact List.getElem?_eq_getElem (by omega))) rfl ?_
          refine o_ev (ev_assign rfl) rfl ?_
          refine o_nil (sq_n (w_seq (w_region (?_))))
          refine o_ev (ev_move rfl) rfl ?_
          refine o_ev (ev_geq rfl rfl) rfl ?_
          refine o_split (ev_move rfl) rfl (fun h4 => ?_) (fun h4 => ?_)
          · skip
            try simp only [Za, Zb, Zc, Zd, Ze, Zf, Zg, Zh] at h4
            refine o_on_ev rfl rfl rfl (ev_move rfl) ?_
            refine o_on_ev rfl rfl rfl (ev_leq rfl rfl) ?_
            refine o_ev (ev_pick_t rfl rfl) rfl ?_
            refine o_ev (ev_assign rfl) rfl ?_
            refine o_nil (sq_n (w_seq (w_region (?_))))
            refine o_ev (ev_move rfl) rfl ?_
            refine o_ev (ev_not rfl) rfl ?_
            refine o_split (ev_move rfl) rfl (fun h5 => ?_) (fun h5 => ?_)
            · skip
              try simp only [Za, Zb, Zc, Zd, Ze, Zf, Zg, Zh] at h5
              refine o_on_ev rfl rfl rfl (ev_move rfl) ?_
              refine o_on_ev rfl rfl rfl (ev_eql rfl rfl) ?_
              refine o_split_on rfl rfl (ev_move rfl) rfl (fun h6 => ?_) (fun h6 => ?_)
              · skip
                try simp only [Za, Zb, Zc, Zd, Ze, Zf, Zg, Zh] at h6
                refine o_off rfl rfl rfl ?_
                refine o_off rfl rfl rfl ?_
                refine o_off rfl rfl rfl ?_
                refine o_off_u rfl rfl rfl ?_
                refine o_off_u rfl rfl rfl ?_
                refine o_off_u rfl rfl rfl ?_
                refine o_off_u rfl rfl rfl ?_
                refine o_off_u rfl rfl rfl ?_
                refine o_off_u rfl rfl rfl ?_
                refine o_off rfl rfl rfl ?_
                refine o_on_ev rfl rfl rfl (ev_pick_t rfl rfl) ?_
                refine o_ev (ev_pick_t rfl rfl) rfl ?_
                refine o_nil (sq_n (?_))
                refine w_if_true rfl (w_seq (w_region (?_)))
                refine o_ev (ev_assign rfl) rfl ?_
                refine o_nil (sq_n (w_ret (bk_r (sq_r (lq_r (bk_r (sq_r (?_))))))))
                refine res_intro (vs := [_]) Tryz.results111 (.inr rfl) (.cons (.tmp rfl) (.nil)) ?_
                exact ⟨_, Ka, by rw [hI, show chOk i c = false from decide_eq_false (by omega)]; rfl, rfl⟩
              · skip
                try simp only [Za, Zb, Zc, Zd, Ze, Zf, Zg, Zh] at h6
                refine o_on_ev rfl rfl rfl (ev_move rfl) ?_
                refine o_on_ev rfl rfl rfl (ev_neq rfl rfl) ?_
                refine o_split_on rfl rfl (ev_move rfl) rfl (fun h7 => ?_) (fun h7 => ?_)
                · skip
                  try simp only [Za, Zb, Zc, Zd, Ze, Zf, Zg, Zh] at h7
                  refine o_on_ev rfl rfl rfl (ev_move rfl) ?_
                  refine o_on_ev rfl rfl rfl (ev_lss rfl rfl) ?_
                  refine o_split_on rfl rfl (ev_move rfl) rfl (fun h8 => ?_) (fun h8 => ?_)
                  · skip
                    try simp only [Za, Zb, Zc, Zd, Ze, Zf, Zg, Zh] at h8
                    refine o_off rfl rfl rfl ?_
                    refine o_off rfl rfl rfl ?_
                    refine o_on_ev rfl rfl rfl (ev_pick_t rfl rfl) ?_
                    refine o_on_ev rfl rfl rfl (ev_pick_t rfl rfl) ?_
                    refine o_on_ev rfl rfl rfl (ev_pick_f rfl rfl) ?_
                    refine o_ev (ev_pick_t rfl rfl) rfl ?_
                    refine o_nil (sq_n (?_))
                    refine w_if_true rfl (w_seq (w_region (?_)))
                    refine o_ev (ev_assign rfl) rfl ?_
                    refine o_nil (sq_n (w_ret (bk_r (sq_r (lq_r (bk_r (sq_r (?_))))))))
                    refine res_intro (vs := [_]) Tryz.results111 (.inr rfl) (.cons (.tmp rfl) (.nil)) ?_
                    exact ⟨_, Ka, by rw [hI, show chOk i c = false from decide_eq_false (by omega)]; rfl, rfl⟩
                  · skip
                    try simp only [Za, Zb, Zc, Zd, Ze, Zf, Zg, Zh] at h8
                    refine o_on_ev rfl rfl rfl (ev_move rfl) ?_
                    refine o_on_ev rfl rfl rfl (ev_gtr rfl rfl) ?_
                    refine o_on_ev rfl rfl rfl (ev_pick_f rfl rfl) ?_
                    refine o_on_ev rfl rfl rfl (ev_pick_t rfl rfl) ?_
                    refine o_on_ev rfl rfl rfl (ev_pick_f rfl rfl) ?_
                    refine o_ev (ev_pick_t rfl rfl) rfl ?_
                    refine o_nil (sq_n (?_))
                    refine w_if rfl (fun h9 => ?_) (fun h9 => ?_)
                    · skip
                      try simp only [Za, Zb, Zc, Zd, Ze, Zf, Zg, Zh] at h9
                      refine w_seq (w_region (?_))
                      refine o_ev (ev_assign rfl) rfl ?_
                      refine o_nil (sq_n (w_ret (bk_r (sq_r (lq_r (bk_r (sq_r (?_))))))))
                      refine res_intro (vs := [_]) Tryz.results111 (.inr rfl) (.cons (.tmp rfl) (.nil)) ?_
                      exact ⟨_, Ka, by rw [hI, show chOk i c = false from decide_eq_false (by omega)]; rfl, rfl⟩
                    · skip
                      try simp only [Za, Zb, Zc, Zd, Ze, Zf, Zg, Zh] at h9
                      refine w_skip (bk_n (sq_n (w_region (?_))))
                      refine o_ev (ev_move rfl) rfl ?_
                      refine o_ev (ev_add rfl rfl (by omega)) rfl ?_
                      refine o_ev (ev_assign rfl) rfl ?_
                      refine o_nil (?_)
                      skip
                      refine lq_n (i + 1) ?_ ?_ ?_ ?_
                      · (try dsimp only)
                        refine ⟨by omega, ?_⟩
                        rw [hI, show chOk i c = true from decide_eq_true (by omega), Bool.true_and]
                      · (try dsimp only)
                        omega
                      · repeat (first | exact Sub.nil | refine Sub.cons rfl ?_)
                      · (try dsimp only)
                        (repeat (first | exact Ka | refine Kb ?_ | refine Kc ?_ | refine Kf ?_ | refine Kd ?_ | refine Ke ?_ | refine Kh ?_ | refine Kg rfl ?_ | refine Ki ?_ | refine Kj ?_ | refine Kk ?_ | refine Kl ?_ | refine Km ?_ | refine Kn ?_ | refine Ko ?_))
                · skip
                  try simp only [Za, Zb, Zc, Zd, Ze, Zf, Zg, Zh] at h7
                  refine o_off rfl rfl rfl ?_
                  refine o_off rfl rfl rfl ?_
                  refine o_off rfl rfl rfl ?_
                  refine o_off_u rfl rfl rfl ?_
                  refine o_off_u rfl rfl rfl ?_
                  refine o_off rfl rfl rfl ?_
                  refine o_on_ev rfl rfl rfl (ev_pick_f rfl rfl) ?_
                  refine o_on_ev rfl rfl rfl (ev_pick_f rfl rfl) ?_
                  refine o_ev (ev_pick_t rfl rfl) rfl ?_
                  refine o_nil (sq_n (?_))
                  refine w_if_false rfl (w_skip (bk_n (sq_n (w_region (?_)))))
                  refine o_ev (ev_move rfl) rfl ?_
                  refine o_ev (ev_add rfl rfl (by omega)) rfl ?_
                  refine o_ev (ev_assign rfl) rfl ?_
                  refine o_nil (?_)
                  skip
                  refine lq_n (i + 1) ?_ ?_ ?_ ?_
                  · (try dsimp only)
                    refine ⟨by omega, ?_⟩
                    rw [hI, show chOk i c = true from decide_eq_true (by omega), Bool.true_and]
                  · (try dsimp only)
                    omega
                  · repeat (first | exact Sub.nil | refine Sub.cons rfl ?_)
                  · (try dsimp only)
                    (repeat (first | exact Ka | refine Kb ?_ | refine Kc ?_ | refine Kf ?_ | refine Kd ?_ | refine Ke ?_ | refine Kh ?_ | refine Kg rfl ?_ | refine Ki ?_ | refine Kj ?_ | refine Kk ?_ | refine Kl ?_ | refine Km ?_ | refine Kn ?_ | refine Ko ?_))
            · skip
              try simp only [Za, Zb, Zc, Zd, Ze, Zf, Zg, Zh] at h5
              refine o_off rfl rfl rfl ?_
              refine o_off rfl rfl rfl ?_
              refine o_off rfl rfl rfl ?_
              refine o_off_u rfl rfl rfl ?_
              refine o_off_u rfl rfl rfl ?_
              refine o_off_u rfl rfl rfl ?_
              refine o_off_u rfl rfl rfl ?_
              refine o_off_u rfl rfl rfl ?_
              refine o_off_u rfl rfl rfl ?_
              refine o_off_u rfl rfl rfl ?_
              refine o_off_u rfl rfl rfl ?_
              refine o_off_u rfl rfl rfl ?_
              refine o_off_u rfl rfl rfl ?_
              refine o_off rfl rfl rfl ?_
              refine o_ev (ev_pick_f rfl rfl) rfl ?_
              refine o_nil (sq_n (?_))
              refine w_if_false rfl (w_skip (bk_n (sq_n (w_region (?_)))))
              refine o_ev (ev_move rfl) rfl ?_
              refine o_ev (ev_add rfl rfl (by omega)) rfl ?_
              refine o_ev (ev_assign rfl) rfl ?_
              refine o_nil (?_)
              skip
              refine lq_n (i + 1) ?_ ?_ ?_ ?_
              · (try dsimp only)
                refine ⟨by omega, ?_⟩
                rw [hI, show chOk i c = true from decide_eq_true (by omega), Bool.true_and]
              · (try dsimp only)
                omega
              · repeat (first | exact Sub.nil | refine Sub.cons rfl ?_)
              · (try dsimp only)
                (repeat (first | exact Ka | refine Kb ?_ | refine Kc ?_ | refine Kf ?_ | refine Kd ?_ | refine Ke ?_ | refine Kh ?_ | refine Kg rfl ?_ | refine Ki ?_ | refine Kj ?_ | refine Kk ?_ | refine Kl ?_ | refine Km ?_ | refine Kn ?_ | refine Ko ?_))
          · skip
            try simp only [Za, Zb, Zc, Zd, Ze, Zf, Zg, Zh] at h4
            refine o_off rfl rfl rfl ?_
            refine o_off rfl rfl rfl ?_
            refine o_ev (ev_pick_f rfl rfl) rfl ?_
            refine o_ev (ev_assign rfl) rfl ?_
            refine o_nil (sq_n (w_seq (w_region (?_))))
            refine o_ev (ev_move rfl) rfl ?_
            refine o_ev (ev_not rfl) rfl ?_
            refine o_ev (ev_move rfl) rfl ?_
            refine o_on_ev rfl rfl rfl (ev_move rfl) ?_
            refine o_on_ev rfl rfl rfl (ev_eql rfl rfl) ?_
            refine o_split_on rfl rfl (ev_move rfl) rfl (fun h10 => ?_) (fun h10 => ?_)
            · skip
              try simp only [Za, Zb, Zc, Zd, Ze, Zf, Zg, Zh] at h10
              refine o_off rfl rfl rfl ?_
              refine o_off rfl rfl rfl ?_
              refine o_off rfl rfl rfl ?_
              refine o_off_u rfl rfl rfl ?_
              refine o_off_u rfl rfl rfl ?_
              refine o_off_u rfl rfl rfl ?_
              refine o_off_u rfl rfl rfl ?_
              refine o_off_u rfl rfl rfl ?_
              refine o_off_u rfl rfl rfl ?_
              refine o_off rfl rfl rfl ?_
              refine o_on_ev rfl rfl rfl (ev_pick_t rfl rfl) ?_
              refine o_ev (ev_pick_t rfl rfl) rfl ?_
              refine o_nil (sq_n (?_))
              refine w_if_true rfl (w_seq (w_region (?_)))
              refine o_ev (ev_assign rfl) rfl ?_
              refine o_nil (sq_n (w_ret (bk_r (sq_r (lq_r (bk_r (sq_r (?_))))))))
              refine res_intro (vs := [_]) Tryz.results111 (.inr rfl) (.cons (.tmp rfl) (.nil)) ?_
              exact ⟨_, Ka, by rw [hI, show chOk i c = false from decide_eq_false (by omega)]; rfl, rfl⟩
            · skip
              try simp only [Za, Zb, Zc, Zd, Ze, Zf, Zg, Zh] at h10
              refine o_on_ev rfl rfl rfl (ev_move rfl) ?_
              refine o_on_ev rfl rfl rfl (ev_neq rfl rfl) ?_
              refine o_split_on rfl rfl (ev_move rfl) rfl (fun h11 => ?_) (fun h11 => ?_)
              · skip
                try simp only [Za, Zb, Zc, Zd, Ze, Zf, Zg, Zh] at h11
                refine o_on_ev rfl rfl rfl (ev_move rfl) ?_
                refine o_on_ev rfl rfl rfl (ev_lss rfl rfl) ?_
                refine o_split_on rfl rfl (ev_move rfl) rfl (fun h12 => ?_) (fun h12 => ?_)
                · skip
                  try simp only [Za, Zb, Zc, Zd, Ze, Zf, Zg, Zh] at h12
                  refine o_off rfl rfl rfl ?_
                  refine o_off rfl rfl rfl ?_
                  refine o_on_ev rfl rfl rfl (ev_pick_t rfl rfl) ?_
                  refine o_on_ev rfl rfl rfl (ev_pick_t rfl rfl) ?_
                  refine o_on_ev rfl rfl rfl (ev_pick_f rfl rfl) ?_
                  refine o_ev (ev_pick_t rfl rfl) rfl ?_
                  refine o_nil (sq_n (?_))
                  refine w_if_true rfl (w_seq (w_region (?_)))
                  refine o_ev (ev_assign rfl) rfl ?_
                  refine o_nil (sq_n (w_ret (bk_r (sq_r (lq_r (bk_r (sq_r (?_))))))))
                  refine res_intro (vs := [_]) Tryz.results111 (.inr rfl) (.cons (.tmp rfl) (.nil)) ?_
                  exact ⟨_, Ka, by rw [hI, show chOk i c = false from decide_eq_false (by omega)]; rfl, rfl⟩
                · skip
                  try simp only [Za, Zb, Zc, Zd, Ze, Zf, Zg, Zh] at h12
                  refine o_on_ev rfl rfl rfl (ev_move rfl) ?_
                  refine o_on_ev rfl rfl rfl (ev_gtr rfl rfl) ?_
                  refine o_on_ev rfl rfl rfl (ev_pick_f rfl rfl) ?_
                  refine o_on_ev rfl rfl rfl (ev_pick_t rfl rfl) ?_
                  refine o_on_ev rfl rfl rfl (ev_pick_f rfl rfl) ?_
                  refine o_ev (ev_pick_t rfl rfl) rfl ?_
                  refine o_nil (sq_n (?_))
                  refine w_if rfl (fun h13 => ?_) (fun h13 => ?_)
                  · skip
                    try simp only [Za, Zb, Zc, Zd, Ze, Zf, Zg, Zh] at h13
                    refine w_seq (w_region (?_))
                    refine o_ev (ev_assign rfl) rfl ?_
                    refine o_nil (sq_n (w_ret (bk_r (sq_r (lq_r (bk_r (sq_r (?_))))))))
                    refine res_intro (vs := [_]) Tryz.results111 (.inr rfl) (.cons (.tmp rfl) (.nil)) ?_
                    exact ⟨_, Ka, by rw [hI, show chOk i c = false from decide_eq_false (by omega)]; rfl, rfl⟩
                  · skip
                    try simp only [Za, Zb, Zc, Zd, Ze, Zf, Zg, Zh] at h13
                    refine w_skip (bk_n (sq_n (w_region (?_))))
                    refine o_ev (ev_move rfl) rfl ?_
                    refine o_ev (ev_add rfl rfl (by omega)) rfl ?_
                    refine o_ev (ev_assign rfl) rfl ?_
                    refine o_nil (?_)
                    skip
                    refine lq_n (i + 1) ?_ ?_ ?_ ?_
                    · (try dsimp only)
                      refine ⟨by omega, ?_⟩
                      rw [hI, show chOk i c = true from decide_eq_true (by omega), Bool.true_and]
                    · (try dsimp only)
                      omega
                    · repeat (first | exact Sub.nil | refine Sub.cons rfl ?_)
                    · (try dsimp only)
                      (repeat (first | exact Ka | refine Kb ?_ | refine Kc ?_ | refine Kf ?_ | refine Kd ?_ | refine Ke ?_ | refine Kh ?_ | refine Kg rfl ?_ | refine Ki ?_ | refine Kj ?_ | refine Kk ?_ | refine Kl ?_ | refine Km ?_ | refine Kn ?_ | refine Ko ?_))
              · skip
                try simp only [Za, Zb, Zc, Zd, Ze, Zf, Zg, Zh] at h11
                refine o_off rfl rfl rfl ?_
                refine o_off rfl rfl rfl ?_
                refine o_off rfl rfl rfl ?_
                refine o_off_u rfl rfl rfl ?_
                refine o_off_u rfl rfl rfl ?_
                refine o_off rfl rfl rfl ?_
                refine o_on_ev rfl rfl rfl (ev_pick_f rfl rfl) ?_
                refine o_on_ev rfl rfl rfl (ev_pick_f rfl rfl) ?_
                refine o_ev (ev_pick_t rfl rfl) rfl ?_
                refine o_nil (sq_n (?_))
                refine w_if_false rfl (w_skip (bk_n (sq_n (w_region (?_)))))
                refine o_ev (ev_move rfl) rfl ?_
                refine o_ev (ev_add rfl rfl (by omega)) rfl ?_
                refine o_ev (ev_assign rfl) rfl ?_
                refine o_nil (?_)
                skip
                refine lq_n (i + 1) ?_ ?_ ?_ ?_
                · (try dsimp only)
                  refine ⟨by omega, ?_⟩
                  rw [hI, show chOk i c = true from decide_eq_true (by omega), Bool.true_and]
                · (try dsimp only)
                  omega
                · repeat (first | exact Sub.nil | refine Sub.cons rfl ?_)
                · (try dsimp only)
                  (repeat (first | exact Ka | refine Kb ?_ | refine Kc ?_ | refine Kf ?_ | refine Kd ?_ | refine Ke ?_ | refine Kh ?_ | refine Kg rfl ?_ | refine Ki ?_ | refine Kj ?_ | refine Kk ?_ | refine Kl ?_ | refine Km ?_ | refine Kn ?_ | refine Ko ?_))
        · skip
          try simp only [Za, Zb, Zc, Zd, Ze, Zf, Zg, Zh] at h3
          obtain rfl : i = s.size := by omega
          rw [List.drop_of_length_le (by omega), chAll] at hI
          refine w_exit (sq_e (lq_e (bk_h (sq_n (w_seq (w_region (?_)))))))
          refine o_ev (ev_assign rfl) rfl ?_
          refine o_nil (sq_n (w_ret (?_)))
          refine res_intro (vs := [_]) Tryz.results111 (.inr rfl) (.cons (.tmp rfl) (.nil)) ?_
          exact ⟨_, Ka, by rw [hI]; rfl, rfl⟩

theorem refCheck {G : Base} {H : Heap} {s : SV} {fs : List FV} [hs : Sl H s eF fs] (hn : fs.length ≤ 1000000000) (hf : ∀ f ∈ fs, f.name.size ≤ 1000000000000) : SC G Tryz.prog 64 [.agg [s.val].toArray] H (fun v H' => H' = H ∧ ((chkS fs = false ∧ v = .int .i64 11) ∨ (chkS fs = true ∧ v = .int .i64 0))) := by
  refine SC.out (sc_walk Tryz.func64 rfl Tryz.ntmps64 (by kernel_rfl) (Nat.le_of_ble_eq_true rfl) ?_)
  refine w_seq (w_region (?_))
  refine o_st (st_box rfl) rfl ?_
  rintro _ _ ⟨b1, rfl, rfl⟩
  refine o_ev (ev_assign rfl) rfl ?_
  refine o_nil (sq_n (w_seq (w_seq (w_region (?_)))))
  refine o_ev (ev_fieldAddr rfl) rfl ?_
  refine o_ev (ev_load rfl) rfl ?_
  refine o_ev (ev_len1 rfl) rfl ?_
  refine o_ev (ev_lss rfl rfl) rfl ?_
  refine o_split (ev_move rfl) rfl (fun h1 => ?_) (fun h1 => ?_)
  · skip
    try simp only [Za, Zb, Zc, Zd, Ze, Zf, Zg, Zh] at h1
    refine o_off rfl rfl rfl ?_
    refine o_off rfl rfl rfl ?_
    refine o_off rfl rfl rfl ?_
    refine o_off rfl rfl rfl ?_
    refine o_ev (ev_pick_t rfl rfl) rfl ?_
    refine o_nil (sq_n (?_))
    refine w_if_true rfl (w_seq (w_region (?_)))
    refine o_ev (ev_assign rfl) rfl ?_
    refine o_nil (sq_n (w_ret (sq_r (?_))))
    refine res_intro (vs := [_]) Tryz.results64 (.inr rfl) (.cons (.tmp rfl) (.nil)) ?_
    have e : chkS fs = false := by unfold chkS; rw [decide_eq_false (by omega)]; rfl
    exact ⟨_, by (repeat (first | exact Ka | refine Kb ?_ | refine Kc ?_ | refine Kf ?_ | refine Kd ?_ | refine Ke ?_ | refine Kh ?_ | refine Kg rfl ?_ | refine Ki ?_ | refine Kj ?_ | refine Kk ?_ | refine Kl ?_ | refine Km ?_ | refine Kn ?_ | refine Ko ?_)), rfl, .inl ⟨e, rfl⟩⟩
  · skip
    try simp only [Za, Zb, Zc, Zd, Ze, Zf, Zg, Zh] at h1
    refine o_on_ev rfl rfl rfl (ev_fieldAddr rfl) ?_
    refine o_on_ev rfl rfl rfl (ev_load rfl) ?_
    refine o_on_ev rfl rfl rfl (ev_len1 rfl) ?_
    refine o_on_ev rfl rfl rfl (ev_gtr rfl rfl) ?_
    refine o_ev (ev_pick_f rfl rfl) rfl ?_
    refine o_nil (sq_n (?_))
    refine w_if rfl (fun h2 => ?_) (fun h2 => ?_)
    · skip
      try simp only [Za, Zb, Zc, Zd, Ze, Zf, Zg, Zh] at h2
      refine w_seq (w_region (?_))
      refine o_ev (ev_assign rfl) rfl ?_
      refine o_nil (sq_n (w_ret (sq_r (?_))))
      refine res_intro (vs := [_]) Tryz.results64 (.inr rfl) (.cons (.tmp rfl) (.nil)) ?_
      have e : chkS fs = false := by unfold chkS; rw [decide_eq_false (by omega)]; rfl
      exact ⟨_, by (repeat (first | exact Ka | refine Kb ?_ | refine Kc ?_ | refine Kf ?_ | refine Kd ?_ | refine Ke ?_ | refine Kh ?_ | refine Kg rfl ?_ | refine Ki ?_ | refine Kj ?_ | refine Kk ?_ | refine Kl ?_ | refine Km ?_ | refine Kn ?_ | refine Ko ?_)), rfl, .inl ⟨e, rfl⟩⟩
    · skip
      try simp only [Za, Zb, Zc, Zd, Ze, Zf, Zg, Zh] at h2
      refine w_skip (sq_n (w_seq (w_seq (w_region (?_)))))
      have e : chkS fs = chkL [] fs := by unfold chkS; rw [decide_eq_true (by omega)]; rfl
      refine o_ev (ev_fieldAddr rfl) rfl ?_
      refine o_ev (ev_load rfl) rfl ?_
      refine o_ev (ev_len1 rfl) rfl ?_
      refine o_ev (ev_move rfl) rfl ?_
      refine o_nil (sq_n (w_block (?_)))
      refine w_loop (Nat) (fun i => i ≤ fs.length ∧ chkS fs = chkL ((fs.take i).map nm) (fs.drop i)) (fun i => [(1, .pointer (some ⟨b1, 0, none⟩)), (18, s.val), (19, .int .i64 ((fs.length : Nat) : Int)), (20, .int .i64 ((i : Nat) : Int))]) (fun _ => Vr b1 [s.val] :: H) (fun i => fs.length - i) (0) ?_ ?_ ?_ ?_
      · (try dsimp only)
        exact ⟨Nat.zero_le _, by rw [e, List.drop_zero]; rfl⟩
      · repeat (first | exact Sub.nil | refine Sub.cons rfl ?_)
      · (try dsimp only)
        (repeat (first | exact Ka | refine Kb ?_ | refine Kc ?_ | refine Kf ?_ | refine Kd ?_ | refine Ke ?_ | refine Kh ?_ | refine Kg rfl ?_ | refine Ki ?_ | refine Kj ?_ | refine Kk ?_ | refine Kl ?_ | refine Km ?_ | refine Kn ?_ | refine Ko ?_))
      · rintro i ⟨hi, hI⟩
        (try dsimp only at *)
        refine w_seq (w_region (?_))
        refine o_ev (ev_lss rfl rfl) rfl ?_
        refine o_nil (sq_n (w_seq (?_)))
        refine w_if rfl (fun h3 => ?_) (fun h3 => ?_)
        · skip
          try simp only [Za, Zb, Zc, Zd, Ze, Zf, Zg, Zh] at h3
          obtain ⟨f, hfi⟩ : ∃ f, fs[i]? = some f := ⟨_, List.getElem?_eq_getElem (by omega)⟩
          have hfn := hf f (List.mem_of_getElem? hfi)
          rw [drop_get hfi, chkL] at hI
          refine w_skip (sq_n (w_seq (w_block (w_seq (w_region (?_))))))
          refine o_ev (ev_move rfl) rfl ?_
          refine o_ev (ev_indexAddr rfl rfl _ rfl (by omega)) rfl ?_
          refine o_ev (ev_loadS_el rfl (by rfl) (by rfl) _ (by first | assumption | rfl | exact List.getElem?_eq_getElem (by omega))) rfl ?_
          refine o_st (st_alloc) rfl ?_
          rintro _ _ ⟨b2, rfl, rfl⟩
          refine o_ev (ev_assign rfl) rfl ?_
          refine o_st (st_store rfl rfl rfl) rfl ?_
          rintro _ _ ⟨rfl, rfl⟩
          refine o_nil (sq_n (w_seq (w_region (?_))))
          refine o_ev (ev_fieldAddr rfl) rfl ?_
          refine o_ev (ev_load rfl) rfl ?_
          refine o_st (st_call (vs := [_]) rfl (refGoodName f.name hfn)) rfl ?_
          rintro _ _ ⟨rfl, rfl⟩
          refine o_ev (ev_assign rfl) rfl ?_
          refine o_nil (sq_n (w_seq (w_seq (w_region (?_)))))
          refine o_ev (ev_move rfl) rfl ?_
          refine o_ev (ev_not rfl) rfl ?_
          refine o_split (ev_move rfl) rfl (fun h4 => ?_) (fun h4 => ?_)
          · skip
            try simp only [Za, Zb, Zc, Zd, Ze, Zf, Zg, Zh] at h4
            refine o_off rfl rfl rfl ?_
            refine o_off rfl rfl rfl ?_
            refine o_off rfl rfl rfl ?_
            refine o_ev (ev_pick_t rfl rfl) rfl ?_
            refine o_ev (ev_move rfl) rfl ?_
            refine o_off rfl rfl rfl ?_
            refine o_off rfl rfl rfl ?_
            refine o_off rfl rfl rfl ?_
            refine o_ev (ev_pick_t rfl rfl) rfl ?_
            refine o_nil (sq_n (?_))
            refine w_if_true rfl (w_seq (w_region (?_)))
            refine o_ev (ev_assign rfl) rfl ?_
            refine o_nil (sq_n (w_ret (sq_r (bk_r (sq_r (lq_r (bk_r (sq_r (?_)))))))))
            refine res_intro (vs := [_]) Tryz.results64 (.inr rfl) (.cons (.tmp rfl) (.nil)) ?_
            have hk : goodN (byts f.name) = false ∨ goodK f = false := by
              first
                | exact .inl (by assumption)
                | exact .inr (by unfold goodK; rw [if_neg (by omega), if_neg (by omega)])
            rcases hk with hk | hk <;> exact ⟨_, by (repeat (first | exact Ka | refine Kb ?_ | refine Kc ?_ | refine Kf ?_ | refine Kd ?_ | refine Ke ?_ | refine Kh ?_ | refine Kg rfl ?_ | refine Ki ?_ | refine Kj ?_ | refine Kk ?_ | refine Kl ?_ | refine Km ?_ | refine Kn ?_ | refine Ko ?_)), rfl, .inl ⟨by rw [hI, hk]; simp, rfl⟩⟩
          · skip
            try simp only [Za, Zb, Zc, Zd, Ze, Zf, Zg, Zh] at h4
            refine o_on_ev rfl rfl rfl (ev_fieldAddr rfl) ?_
            refine o_on_ev rfl rfl rfl (ev_load rfl) ?_
            refine o_on_ev rfl rfl rfl (ev_lss rfl rfl) ?_
            refine o_ev (ev_pick_f rfl rfl) rfl ?_
            refine o_split (ev_move rfl) rfl (fun h5 => ?_) (fun h5 => ?_)
            · skip
              try simp only [Za, Zb, Zc, Zd, Ze, Zf, Zg, Zh] at h5
              refine o_off rfl rfl rfl ?_
              refine o_off rfl rfl rfl ?_
              refine o_off rfl rfl rfl ?_
              refine o_ev (ev_pick_t rfl rfl) rfl ?_
              refine o_nil (sq_n (?_))
              refine w_if_true rfl (w_seq (w_region (?_)))
              refine o_ev (ev_assign rfl) rfl ?_
              refine o_nil (sq_n (w_ret (sq_r (bk_r (sq_r (lq_r (bk_r (sq_r (?_)))))))))
              refine res_intro (vs := [_]) Tryz.results64 (.inr rfl) (.cons (.tmp rfl) (.nil)) ?_
              have hk : goodN (byts f.name) = false ∨ goodK f = false := by
                first
                  | exact .inl (by assumption)
                  | exact .inr (by unfold goodK; rw [if_neg (by omega), if_neg (by omega)])
              rcases hk with hk | hk <;> exact ⟨_, by (repeat (first | exact Ka | refine Kb ?_ | refine Kc ?_ | refine Kf ?_ | refine Kd ?_ | refine Ke ?_ | refine Kh ?_ | refine Kg rfl ?_ | refine Ki ?_ | refine Kj ?_ | refine Kk ?_ | refine Kl ?_ | refine Km ?_ | refine Kn ?_ | refine Ko ?_)), rfl, .inl ⟨by rw [hI, hk]; simp, rfl⟩⟩
            · skip
              try simp only [Za, Zb, Zc, Zd, Ze, Zf, Zg, Zh] at h5
              refine o_on_ev rfl rfl rfl (ev_fieldAddr rfl) ?_
              refine o_on_ev rfl rfl rfl (ev_load rfl) ?_
              refine o_on_ev rfl rfl rfl (ev_gtr rfl rfl) ?_
              refine o_ev (ev_pick_f rfl rfl) rfl ?_
              refine o_nil (sq_n (?_))
              refine w_if rfl (fun h6 => ?_) (fun h6 => ?_)
              · skip
                try simp only [Za, Zb, Zc, Zd, Ze, Zf, Zg, Zh] at h6
                refine w_seq (w_region (?_))
                refine o_ev (ev_assign rfl) rfl ?_
                refine o_nil (sq_n (w_ret (sq_r (bk_r (sq_r (lq_r (bk_r (sq_r (?_)))))))))
                refine res_intro (vs := [_]) Tryz.results64 (.inr rfl) (.cons (.tmp rfl) (.nil)) ?_
                have hk : goodN (byts f.name) = false ∨ goodK f = false := by
                  first
                    | exact .inl (by assumption)
                    | exact .inr (by unfold goodK; rw [if_neg (by omega), if_neg (by omega)])
                rcases hk with hk | hk <;> exact ⟨_, by (repeat (first | exact Ka | refine Kb ?_ | refine Kc ?_ | refine Kf ?_ | refine Kd ?_ | refine Ke ?_ | refine Kh ?_ | refine Kg rfl ?_ | refine Ki ?_ | refine Kj ?_ | refine Kk ?_ | refine Kl ?_ | refine Km ?_ | refine Kn ?_ | refine Ko ?_)), rfl, .inl ⟨by rw [hI, hk]; simp, rfl⟩⟩
              · skip
                try simp only [Za, Zb, Zc, Zd, Ze, Zf, Zg, Zh] at h6
                refine w_skip (sq_n (w_seq (w_seq (w_region (?_)))))
                refine o_ev (ev_fieldAddr rfl) rfl ?_
                refine o_ev (ev_load rfl) rfl ?_
                refine o_ev (ev_neq rfl rfl) rfl ?_
                refine o_split (ev_move rfl) rfl (fun h7 => ?_) (fun h7 => ?_)
                · skip
                  try simp only [Za, Zb, Zc, Zd, Ze, Zf, Zg, Zh] at h7
                  refine o_on_ev rfl rfl rfl (ev_fieldAddr rfl) ?_
                  refine o_on_ev rfl rfl rfl (ev_load rfl) ?_
                  refine o_split_on rfl rfl (ev_move rfl) rfl (fun h8 => ?_) (fun h8 => ?_)
                  · skip
                    try simp only [Za, Zb, Zc, Zd, Ze, Zf, Zg, Zh] at h8
                    refine o_off rfl rfl rfl ?_
                    refine o_off rfl rfl rfl ?_
                    refine o_on_ev rfl rfl rfl (ev_pick_t rfl rfl) ?_
                    refine o_on_ev rfl rfl rfl (ev_move rfl) ?_
                    refine o_off rfl rfl rfl ?_
                    refine o_off rfl rfl rfl ?_
                    refine o_on_ev rfl rfl rfl (ev_pick_t rfl rfl) ?_
                    refine o_ev (ev_pick_t rfl rfl) rfl ?_
                    refine o_nil (sq_n (?_))
                    refine w_if_true rfl (w_seq (w_region (?_)))
                    refine o_ev (ev_assign rfl) rfl ?_
                    refine o_nil (sq_n (w_ret (sq_r (bk_r (sq_r (lq_r (bk_r (sq_r (?_)))))))))
                    refine res_intro (vs := [_]) Tryz.results64 (.inr rfl) (.cons (.tmp rfl) (.nil)) ?_
                    have hk : goodK f = false := by
                      clear hI; unfold goodK; rw [if_neg (by omega), if_pos (by omega)]; simp_all
                    exact ⟨_, by (repeat (first | exact Ka | refine Kb ?_ | refine Kc ?_ | refine Kf ?_ | refine Kd ?_ | refine Ke ?_ | refine Kh ?_ | refine Kg rfl ?_ | refine Ki ?_ | refine Kj ?_ | refine Kk ?_ | refine Kl ?_ | refine Km ?_ | refine Kn ?_ | refine Ko ?_)), rfl, .inl ⟨by rw [hI, hk]; simp, rfl⟩⟩
                  · skip
                    try simp only [Za, Zb, Zc, Zd, Ze, Zf, Zg, Zh] at h8
                    refine o_on_ev rfl rfl rfl (ev_fieldAddr rfl) ?_
                    refine o_on_ev rfl rfl rfl (ev_load rfl) ?_
                    refine o_on_ev rfl rfl rfl (ev_pick_f rfl rfl) ?_
                    refine o_split_on rfl rfl (ev_move rfl) rfl (fun h9 => ?_) (fun h9 => ?_)
                    · skip
                      try simp only [Za, Zb, Zc, Zd, Ze, Zf, Zg, Zh] at h9
                      refine o_off rfl rfl rfl ?_
                      refine o_off rfl rfl rfl ?_
                      refine o_on_ev rfl rfl rfl (ev_pick_t rfl rfl) ?_
                      refine o_ev (ev_pick_t rfl rfl) rfl ?_
                      refine o_nil (sq_n (?_))
                      refine w_if_true rfl (w_seq (w_region (?_)))
                      refine o_ev (ev_assign rfl) rfl ?_
                      refine o_nil (sq_n (w_ret (sq_r (bk_r (sq_r (lq_r (bk_r (sq_r (?_)))))))))
                      refine res_intro (vs := [_]) Tryz.results64 (.inr rfl) (.cons (.tmp rfl) (.nil)) ?_
                      have hk : goodK f = false := by
                        clear hI; unfold goodK; rw [if_neg (by omega), if_pos (by omega)]; simp_all
                      exact ⟨_, by (repeat (first | exact Ka | refine Kb ?_ | refine Kc ?_ | refine Kf ?_ | refine Kd ?_ | refine Ke ?_ | refine Kh ?_ | refine Kg rfl ?_ | refine Ki ?_ | refine Kj ?_ | refine Kk ?_ | refine Kl ?_ | refine Km ?_ | refine Kn ?_ | refine Ko ?_)), rfl, .inl ⟨by rw [hI, hk]; simp, rfl⟩⟩
                    · skip
                      try simp only [Za, Zb, Zc, Zd, Ze, Zf, Zg, Zh] at h9
                      refine o_on_ev rfl rfl rfl (ev_fieldAddr rfl) ?_
                      refine o_on_ev rfl rfl rfl (ev_load rfl) ?_
                      refine o_on_ev rfl rfl rfl (ev_pick_f rfl rfl) ?_
                      refine o_ev (ev_pick_t rfl rfl) rfl ?_
                      refine o_nil (sq_n (?_))
                      refine w_if rfl (fun h10 => ?_) (fun h10 => ?_)
                      · skip
                        try simp only [Za, Zb, Zc, Zd, Ze, Zf, Zg, Zh] at h10
                        refine w_seq (w_region (?_))
                        refine o_ev (ev_assign rfl) rfl ?_
                        refine o_nil (sq_n (w_ret (sq_r (bk_r (sq_r (lq_r (bk_r (sq_r (?_)))))))))
                        refine res_intro (vs := [_]) Tryz.results64 (.inr rfl) (.cons (.tmp rfl) (.nil)) ?_
                        have hk : goodK f = false := by
                          clear hI; unfold goodK; rw [if_neg (by omega), if_pos (by omega)]; simp_all
                        exact ⟨_, by (repeat (first | exact Ka | refine Kb ?_ | refine Kc ?_ | refine Kf ?_ | refine Kd ?_ | refine Ke ?_ | refine Kh ?_ | refine Kg rfl ?_ | refine Ki ?_ | refine Kj ?_ | refine Kk ?_ | refine Kl ?_ | refine Km ?_ | refine Kn ?_ | refine Ko ?_)), rfl, .inl ⟨by rw [hI, hk]; simp, rfl⟩⟩
                      · skip
                        try simp only [Za, Zb, Zc, Zd, Ze, Zf, Zg, Zh] at h10
                        refine w_skip (sq_n (w_seq (w_region (?_))))
                        have hgn : goodN (byts f.name) = true := by assumption
                        have hgk : goodK f = true := by
                          clear hI; unfold goodK
                          by_cases hk1 : f.kind = 1
                          · rw [if_pos hk1]
                          · rw [if_neg hk1, if_pos (by omega)]; simp_all
                        rw [hgn, hgk] at hI
                        refine o_ev (ev_assign rfl) rfl ?_
                        refine o_nil (sq_n (w_block (?_)))
                        refine w_loop (Nat) (fun j => j ≤ i ∧ ∀ j' g, j' < j → fs[j']? = some g → byts g.name ≠ byts f.name) (fun j => [(1, .pointer (some ⟨b1, 0, none⟩)), (3, .int .i64 ((i : Nat) : Int)), (4, .pointer (some ⟨b2, 0, none⟩)), (6, .int .i64 ((j : Nat) : Int)), (18, s.val), (19, .int .i64 ((fs.length : Nat) : Int)), (20, .int .i64 ((i : Nat) : Int))]) (fun _ => Vr b2 [.string f.name, .int .i64 f.kind, .bool f.fold, .bool f.stop, .bool f.stem] :: Vr b1 [s.val] :: H) (fun j => i - j) (0) ?_ ?_ ?_ ?_
                        · (try dsimp only)
                          exact ⟨Nat.zero_le _, fun j' g h => absurd h (Nat.not_lt_zero _)⟩
                        · repeat (first | exact Sub.nil | refine Sub.cons rfl ?_)
                        · (try dsimp only)
                          (repeat (first | exact Ka | refine Kb ?_ | refine Kc ?_ | refine Kf ?_ | refine Kd ?_ | refine Ke ?_ | refine Kh ?_ | refine Kg rfl ?_ | refine Ki ?_ | refine Kj ?_ | refine Kk ?_ | refine Kl ?_ | refine Km ?_ | refine Kn ?_ | refine Ko ?_))
                        · rintro j ⟨hj, hall⟩
                          (try dsimp only at *)
                          refine w_seq (w_seq (w_region (?_)))
                          refine o_ev (ev_move rfl) rfl ?_
                          refine o_ev (ev_move rfl) rfl ?_
                          refine o_ev (ev_lss rfl rfl) rfl ?_
                          refine o_nil (sq_n (?_))
                          refine w_if rfl (fun h11 => ?_) (fun h11 => ?_)
                          · skip
                            try simp only [Za, Zb, Zc, Zd, Ze, Zf, Zg, Zh] at h11
                            obtain ⟨g, hgj⟩ : ∃ f, fs[j]? = some f := ⟨_, List.getElem?_eq_getElem (by omega)⟩
                            refine w_skip (sq_n (w_seq (w_block (w_seq (?_)))))
                            refine w_still Tryz_mixed ?_
                            refine an_first 0 rfl rfl (by kernel_rfl) rfl (qv_at (ev_fieldAddr rfl)) ?_
                            refine an_first 1 rfl rfl (by kernel_rfl) rfl (qv_at (ev_load rfl)) ?_
                            refine an_first 2 rfl rfl (by kernel_rfl) rfl (qv_at (ev_move rfl)) ?_
                            refine an_first 3 rfl rfl (by kernel_rfl) rfl (qv_at (ev_indexAddr rfl rfl j rfl (by omega))) ?_
                            refine an_first 4 rfl rfl (by kernel_rfl) rfl (qv_at (ev_fieldAddr_elt rfl (by omega))) ?_
                            refine an_first 5 rfl rfl (by kernel_rfl) rfl (qv_at (ev_load_fl rfl (by rfl) g hgj (by rfl))) ?_
                            refine an_first 6 rfl rfl (by kernel_rfl) rfl (qv_at (ev_fieldAddr rfl)) ?_
                            refine an_first 7 rfl rfl (by kernel_rfl) rfl (qv_at (ev_load rfl)) ?_
                            refine an_first 8 rfl rfl (by kernel_rfl) rfl (qv_at (ev_eql_str rfl rfl)) ?_
                            refine an_nil (by kernel_rfl) (fun _ _ => rfl) (sq_n (?_))
                            refine w_if rfl (fun h12 => ?_) (fun h12 => ?_)
                            · skip
                              try simp only [Za, Zb, Zc, Zd, Ze, Zf, Zg, Zh] at h12
                              refine w_seq (w_region (?_))
                              refine o_ev (ev_assign rfl) rfl ?_
                              refine o_nil (sq_n (w_ret (bk_r (sq_r (lq_r (bk_r (bk_r (sq_r (lq_r (bk_r (sq_r (?_))))))))))))
                              refine res_intro (vs := [_]) Tryz.results64 (.inr rfl) (.cons (.tmp rfl) (.nil)) ?_
                              refine ⟨_, by (repeat (first | exact Ka | refine Kb ?_ | refine Kc ?_ | refine Kf ?_ | refine Kd ?_ | refine Ke ?_ | refine Kh ?_ | refine Kg rfl ?_ | refine Ki ?_ | refine Kj ?_ | refine Kk ?_ | refine Kl ?_ | refine Km ?_ | refine Kn ?_ | refine Ko ?_)), rfl, .inl ⟨?_, rfl⟩⟩
                              have hm : byts f.name ∈ (fs.take i).map nm := by
                                refine List.mem_map.2 ⟨g, ?_, by assumption⟩
                                exact List.mem_of_getElem? (i := j) (by rw [List.getElem?_take_of_lt (by omega)]; exact hgj)
                              rw [hI, decide_eq_true hm]; rfl
                            · skip
                              try simp only [Za, Zb, Zc, Zd, Ze, Zf, Zg, Zh] at h12
                              refine w_skip (bk_n (sq_n (w_region (?_))))
                              refine o_ev (ev_move rfl) rfl ?_
                              refine o_ev (ev_add rfl rfl (by omega)) rfl ?_
                              refine o_ev (ev_assign rfl) rfl ?_
                              refine o_nil (?_)
                              skip
                              refine lq_n (j + 1) ?_ ?_ ?_ ?_
                              · (try dsimp only)
                                refine ⟨by omega, fun j' g' hj' hg' => ?_⟩
                                rcases Nat.lt_or_eq_of_le (Nat.le_of_lt_succ hj') with h | rfl
                                · exact hall j' g' h hg'
                                · rw [hgj] at hg'; cases hg'; assumption
                              · (try dsimp only)
                                omega
                              · repeat (first | exact Sub.nil | refine Sub.cons rfl ?_)
                              · (try dsimp only)
                                (repeat (first | exact Ka | refine Kb ?_ | refine Kc ?_ | refine Kf ?_ | refine Kd ?_ | refine Ke ?_ | refine Kh ?_ | refine Kg rfl ?_ | refine Ki ?_ | refine Kj ?_ | refine Kk ?_ | refine Kl ?_ | refine Km ?_ | refine Kn ?_ | refine Ko ?_))
                          · skip
                            try simp only [Za, Zb, Zc, Zd, Ze, Zf, Zg, Zh] at h11
                            obtain rfl : i = j := by omega
                            have hno : byts f.name ∉ (fs.take i).map nm := by
                              intro hm
                              obtain ⟨g, hg, he⟩ := List.mem_map.1 hm
                              obtain ⟨k, hk⟩ := List.mem_iff_getElem?.1 hg
                              have hkl := (List.getElem?_eq_some_iff.1 hk).1
                              rw [List.length_take] at hkl
                              rw [List.getElem?_take_of_lt (by omega)] at hk
                              exact hall k g (by omega) hk he
                            rw [decide_eq_false hno] at hI
                            refine w_exit (sq_e (lq_e (bk_h (bk_n (sq_n (w_region (?_)))))))
                            refine o_ev (ev_add rfl rfl (by omega)) rfl ?_
                            refine o_ev (ev_move rfl) rfl ?_
                            refine o_nil (?_)
                            skip
                            refine lq_n (i + 1) ?_ ?_ ?_ ?_
                            · (try dsimp only)
                              refine ⟨by omega, ?_⟩
                              rw [hI, take_succ_get hfi, List.map_append]; rfl
                            · (try dsimp only)
                              omega
                            · repeat (first | exact Sub.nil | refine Sub.cons rfl ?_)
                            · (try dsimp only)
                              (repeat (first | exact Ka | refine Kb ?_ | refine Kc ?_ | refine Kf ?_ | refine Kd ?_ | refine Ke ?_ | refine Kh ?_ | refine Kg rfl ?_ | refine Ki ?_ | refine Kj ?_ | refine Kk ?_ | refine Kl ?_ | refine Km ?_ | refine Kn ?_ | refine Ko ?_))
                · skip
                  try simp only [Za, Zb, Zc, Zd, Ze, Zf, Zg, Zh] at h7
                  refine o_off rfl rfl rfl ?_
                  refine o_off rfl rfl rfl ?_
                  refine o_off rfl rfl rfl ?_
                  refine o_off_u rfl rfl rfl ?_
                  refine o_off_u rfl rfl rfl ?_
                  refine o_off rfl rfl rfl ?_
                  refine o_off rfl rfl rfl ?_
                  refine o_off_u rfl rfl rfl ?_
                  refine o_off_u rfl rfl rfl ?_
                  refine o_off rfl rfl rfl ?_
                  refine o_ev (ev_pick_f rfl rfl) rfl ?_
                  refine o_nil (sq_n (?_))
                  refine w_if_false rfl (w_skip (sq_n (w_seq (w_region (?_)))))
                  have hgn : goodN (byts f.name) = true := by assumption
                  have hgk : goodK f = true := by
                    clear hI; unfold goodK
                    by_cases hk1 : f.kind = 1
                    · rw [if_pos hk1]
                    · rw [if_neg hk1, if_pos (by omega)]; simp_all
                  rw [hgn, hgk] at hI
                  refine o_ev (ev_assign rfl) rfl ?_
                  refine o_nil (sq_n (w_block (?_)))
                  refine w_loop (Nat) (fun j => j ≤ i ∧ ∀ j' g, j' < j → fs[j']? = some g → byts g.name ≠ byts f.name) (fun j => [(1, .pointer (some ⟨b1, 0, none⟩)), (3, .int .i64 ((i : Nat) : Int)), (4, .pointer (some ⟨b2, 0, none⟩)), (6, .int .i64 ((j : Nat) : Int)), (18, s.val), (19, .int .i64 ((fs.length : Nat) : Int)), (20, .int .i64 ((i : Nat) : Int))]) (fun _ => Vr b2 [.string f.name, .int .i64 f.kind, .bool f.fold, .bool f.stop, .bool f.stem] :: Vr b1 [s.val] :: H) (fun j => i - j) (0) ?_ ?_ ?_ ?_
                  · (try dsimp only)
                    exact ⟨Nat.zero_le _, fun j' g h => absurd h (Nat.not_lt_zero _)⟩
                  · repeat (first | exact Sub.nil | refine Sub.cons rfl ?_)
                  · (try dsimp only)
                    (repeat (first | exact Ka | refine Kb ?_ | refine Kc ?_ | refine Kf ?_ | refine Kd ?_ | refine Ke ?_ | refine Kh ?_ | refine Kg rfl ?_ | refine Ki ?_ | refine Kj ?_ | refine Kk ?_ | refine Kl ?_ | refine Km ?_ | refine Kn ?_ | refine Ko ?_))
                  · rintro j ⟨hj, hall⟩
                    (try dsimp only at *)
                    refine w_seq (w_seq (w_region (?_)))
                    refine o_ev (ev_move rfl) rfl ?_
                    refine o_ev (ev_move rfl) rfl ?_
                    refine o_ev (ev_lss rfl rfl) rfl ?_
                    refine o_nil (sq_n (?_))
                    refine w_if rfl (fun h13 => ?_) (fun h13 => ?_)
                    · skip
                      try simp only [Za, Zb, Zc, Zd, Ze, Zf, Zg, Zh] at h13
                      obtain ⟨g, hgj⟩ : ∃ f, fs[j]? = some f := ⟨_, List.getElem?_eq_getElem (by omega)⟩
                      refine w_skip (sq_n (w_seq (w_block (w_seq (?_)))))
                      refine w_still Tryz_mixed ?_
                      refine an_first 0 rfl rfl (by kernel_rfl) rfl (qv_at (ev_fieldAddr rfl)) ?_
                      refine an_first 1 rfl rfl (by kernel_rfl) rfl (qv_at (ev_load rfl)) ?_
                      refine an_first 2 rfl rfl (by kernel_rfl) rfl (qv_at (ev_move rfl)) ?_
                      refine an_first 3 rfl rfl (by kernel_rfl) rfl (qv_at (ev_indexAddr rfl rfl j rfl (by omega))) ?_
                      refine an_first 4 rfl rfl (by kernel_rfl) rfl (qv_at (ev_fieldAddr_elt rfl (by omega))) ?_
                      refine an_first 5 rfl rfl (by kernel_rfl) rfl (qv_at (ev_load_fl rfl (by rfl) g hgj (by rfl))) ?_
                      refine an_first 6 rfl rfl (by kernel_rfl) rfl (qv_at (ev_fieldAddr rfl)) ?_
                      refine an_first 7 rfl rfl (by kernel_rfl) rfl (qv_at (ev_load rfl)) ?_
                      refine an_first 8 rfl rfl (by kernel_rfl) rfl (qv_at (ev_eql_str rfl rfl)) ?_
                      refine an_nil (by kernel_rfl) (fun _ _ => rfl) (sq_n (?_))
                      refine w_if rfl (fun h14 => ?_) (fun h14 => ?_)
                      · skip
                        try simp only [Za, Zb, Zc, Zd, Ze, Zf, Zg, Zh] at h14
                        refine w_seq (w_region (?_))
                        refine o_ev (ev_assign rfl) rfl ?_
                        refine o_nil (sq_n (w_ret (bk_r (sq_r (lq_r (bk_r (bk_r (sq_r (lq_r (bk_r (sq_r (?_))))))))))))
                        refine res_intro (vs := [_]) Tryz.results64 (.inr rfl) (.cons (.tmp rfl) (.nil)) ?_
                        refine ⟨_, by (repeat (first | exact Ka | refine Kb ?_ | refine Kc ?_ | refine Kf ?_ | refine Kd ?_ | refine Ke ?_ | refine Kh ?_ | refine Kg rfl ?_ | refine Ki ?_ | refine Kj ?_ | refine Kk ?_ | refine Kl ?_ | refine Km ?_ | refine Kn ?_ | refine Ko ?_)), rfl, .inl ⟨?_, rfl⟩⟩
                        have hm : byts f.name ∈ (fs.take i).map nm := by
                          refine List.mem_map.2 ⟨g, ?_, by assumption⟩
                          exact List.mem_of_getElem? (i := j) (by rw [List.getElem?_take_of_lt (by omega)]; exact hgj)
                        rw [hI, decide_eq_true hm]; rfl
                      · skip
                        try simp only [Za, Zb, Zc, Zd, Ze, Zf, Zg, Zh] at h14
                        refine w_skip (bk_n (sq_n (w_region (?_))))
                        refine o_ev (ev_move rfl) rfl ?_
                        refine o_ev (ev_add rfl rfl (by omega)) rfl ?_
                        refine o_ev (ev_assign rfl) rfl ?_
                        refine o_nil (?_)
                        skip
                        refine lq_n (j + 1) ?_ ?_ ?_ ?_
                        · (try dsimp only)
                          refine ⟨by omega, fun j' g' hj' hg' => ?_⟩
                          rcases Nat.lt_or_eq_of_le (Nat.le_of_lt_succ hj') with h | rfl
                          · exact hall j' g' h hg'
                          · rw [hgj] at hg'; cases hg'; assumption
                        · (try dsimp only)
                          omega
                        · repeat (first | exact Sub.nil | refine Sub.cons rfl ?_)
                        · (try dsimp only)
                          (repeat (first | exact Ka | refine Kb ?_ | refine Kc ?_ | refine Kf ?_ | refine Kd ?_ | refine Ke ?_ | refine Kh ?_ | refine Kg rfl ?_ | refine Ki ?_ | refine Kj ?_ | refine Kk ?_ | refine Kl ?_ | refine Km ?_ | refine Kn ?_ | refine Ko ?_))
                    · skip
                      try simp only [Za, Zb, Zc, Zd, Ze, Zf, Zg, Zh] at h13
                      obtain rfl : i = j := by omega
                      have hno : byts f.name ∉ (fs.take i).map nm := by
                        intro hm
                        obtain ⟨g, hg, he⟩ := List.mem_map.1 hm
                        obtain ⟨k, hk⟩ := List.mem_iff_getElem?.1 hg
                        have hkl := (List.getElem?_eq_some_iff.1 hk).1
                        rw [List.length_take] at hkl
                        rw [List.getElem?_take_of_lt (by omega)] at hk
                        exact hall k g (by omega) hk he
                      rw [decide_eq_false hno] at hI
                      refine w_exit (sq_e (lq_e (bk_h (bk_n (sq_n (w_region (?_)))))))
                      refine o_ev (ev_add rfl rfl (by omega)) rfl ?_
                      refine o_ev (ev_move rfl) rfl ?_
                      refine o_nil (?_)
                      skip
                      refine lq_n (i + 1) ?_ ?_ ?_ ?_
                      · (try dsimp only)
                        refine ⟨by omega, ?_⟩
                        rw [hI, take_succ_get hfi, List.map_append]; rfl
                      · (try dsimp only)
                        omega
                      · repeat (first | exact Sub.nil | refine Sub.cons rfl ?_)
                      · (try dsimp only)
                        (repeat (first | exact Ka | refine Kb ?_ | refine Kc ?_ | refine Kf ?_ | refine Kd ?_ | refine Ke ?_ | refine Kh ?_ | refine Kg rfl ?_ | refine Ki ?_ | refine Kj ?_ | refine Kk ?_ | refine Kl ?_ | refine Km ?_ | refine Kn ?_ | refine Ko ?_))
        · skip
          try simp only [Za, Zb, Zc, Zd, Ze, Zf, Zg, Zh] at h3
          obtain rfl : i = fs.length := by omega
          rw [List.drop_of_length_le (Nat.le_refl _), chkL] at hI
          refine w_exit (sq_e (lq_e (bk_h (sq_n (w_seq (w_region (?_)))))))
          refine o_ev (ev_assign rfl) rfl ?_
          refine o_nil (sq_n (w_ret (?_)))
          refine res_intro (vs := [_]) Tryz.results64 (.inr rfl) (.cons (.tmp rfl) (.nil)) ?_
          exact ⟨_, by (repeat (first | exact Ka | refine Kb ?_ | refine Kc ?_ | refine Kf ?_ | refine Kd ?_ | refine Ke ?_ | refine Kh ?_ | refine Kg rfl ?_ | refine Ki ?_ | refine Kj ?_ | refine Kk ?_ | refine Kl ?_ | refine Km ?_ | refine Kn ?_ | refine Ko ?_)), rfl, .inr ⟨hI, rfl⟩⟩
theorem kB_int {f : FV} (h : 0 ≤ f.kind) : ((kB f : Nat) : Int) = f.kind + (if f.fold = true then 4 else 0) + (if f.stop = true then 8 else 0) + (if f.stem = true then 16 else 0) := by
  unfold kB
  split <;> split <;> split <;> omega

theorem refEncS {G : Base} {H : Heap} {s : SV} {fs : List FV} [hs : Sl H s eF fs] (hn : fs.length ≤ 1000000000) (hf : ∀ f ∈ fs, f.name.size ≤ 1000000000000) : SC G Tryz.prog 31 [.agg [s.val].toArray] H (fun v H' => (chkS fs = false ∧ ∃ s' : SV, v = .tuple #[s'.val, .int .i64 11] ∧ H' = H) ∨ (chkS fs = true ∧ ∃ s' : SV, v = .tuple #[s'.val, .int .i64 0] ∧ H' = Row s' eB (encS fs) :: H)) := by
  refine SC.out (sc_walk Tryz.func31 rfl Tryz.ntmps31 (by kernel_rfl) (Nat.le_of_ble_eq_true rfl) ?_)
  refine w_seq (w_region (?_))
  refine o_st (st_box rfl) rfl ?_
  rintro _ _ ⟨b1, rfl, rfl⟩
  refine o_ev (ev_assign rfl) rfl ?_
  refine o_ev (ev_assign rfl) rfl ?_
  refine o_nil (sq_n (w_seq (w_region (?_))))
  refine o_ev (ev_loadS rfl) rfl ?_
  refine o_st (st_call (vs := [_]) rfl (refCheck hn hf)) rfl ?_
  rintro v1 H1 ⟨rfl, hK⟩
  rcases hK with ⟨hc, rfl⟩ | ⟨hc, rfl⟩
  · skip
    refine o_ev (ev_assign rfl) rfl ?_
    refine o_nil (sq_n (w_seq (w_seq (w_region (?_)))))
    refine o_ev (ev_move rfl) rfl ?_
    refine o_ev (ev_neq rfl rfl) rfl ?_
    refine o_nil (sq_n (?_))
    refine w_if_true rfl (w_seq (w_region (?_)))
    refine o_st (st_build0 eB rfl) rfl ?_
    rintro _ _ ⟨s0, rfl, rfl⟩
    refine o_ev (ev_move rfl) rfl ?_
    refine o_ev (ev_assign rfl) rfl ?_
    refine o_ev (ev_assign rfl) rfl ?_
    refine o_nil (sq_n (w_ret (sq_r (?_))))
    refine res_intro (vs := [_, _]) Tryz.results31 (.inr rfl) (.cons (.tmp rfl) (.cons (.tmp rfl) (.nil))) ?_
    exact ⟨_, by (repeat (first | exact Ka | refine Kb ?_ | refine Kc ?_ | refine Kf ?_ | refine Kd ?_ | refine Ke ?_ | refine Kh ?_ | refine Kg rfl ?_ | refine Ki ?_ | refine Kj ?_ | refine Kk ?_ | refine Kl ?_ | refine Km ?_ | refine Kn ?_ | refine Ko ?_)), .inl ⟨hc, s0, rfl, rfl⟩⟩
  · skip
    obtain ⟨⟨hl1, hl2⟩, hfl⟩ := chkS_get hc
    refine o_ev (ev_assign rfl) rfl ?_
    refine o_nil (sq_n (w_seq (w_seq (w_region (?_)))))
    refine o_ev (ev_move rfl) rfl ?_
    refine o_ev (ev_neq rfl rfl) rfl ?_
    refine o_nil (sq_n (?_))
    refine w_if_false rfl (w_skip (sq_n (w_seq (w_region (?_)))))
    refine o_ev (ev_fieldAddr rfl) rfl ?_
    refine o_ev (ev_load rfl) rfl ?_
    refine o_ev (ev_len1 rfl) rfl ?_
    refine o_ev (ev_convL 18446744073709551616 rfl rfl rfl fs.length rfl (by omega)) rfl ?_
    refine o_st (st_call (vs := [_]) rfl (refUv1 fs.length (by omega))) rfl ?_
    rintro _ _ ⟨s1, rfl, rfl⟩
    refine o_ev (ev_assign rfl) rfl ?_
    refine o_nil (sq_n (w_seq (w_seq (w_region (?_)))))
    refine o_ev (ev_fieldAddr rfl) rfl ?_
    refine o_ev (ev_load rfl) rfl ?_
    refine o_ev (ev_len1 rfl) rfl ?_
    refine o_ev (ev_move rfl) rfl ?_
    refine o_nil (sq_n (w_block (?_)))
    refine w_loop (SV × Nat × List Nat) (fun y => y.2.1 ≤ fs.length ∧ y.2.2 = uv fs.length ++ encFs (fs.take y.2.1) ∧ y.2.2.length ≤ 100 + 100 * y.2.1) (fun y => [(5, y.1.val), (21, s.val), (22, .int .i64 ((fs.length : Nat) : Int)), (23, .int .i64 ((y.2.1 : Nat) : Int))]) (fun y => Row y.1 eB y.2.2 :: H) (fun y => fs.length - y.2.1) ((s1, 0, uv fs.length)) ?_ ?_ ?_ ?_
    · (try dsimp only)
      have := uv_len10 (n := fs.length) (by omega)
      exact ⟨Nat.zero_le _, by simp [encFs], by omega⟩
    · repeat (first | exact Sub.nil | refine Sub.cons rfl ?_)
    · (try dsimp only)
      (repeat (first | exact Ka | refine Kb ?_ | refine Kc ?_ | refine Kf ?_ | refine Kd ?_ | refine Ke ?_ | refine Kh ?_ | refine Kg rfl ?_ | refine Ki ?_ | refine Kj ?_ | refine Kk ?_ | refine Kl ?_ | refine Km ?_ | refine Kn ?_ | refine Ko ?_))
    · rintro ⟨so, i, zs⟩ ⟨hi, hI, hzl⟩
      (try dsimp only at *)
      refine w_seq (w_region (?_))
      refine o_ev (ev_lss rfl rfl) rfl ?_
      refine o_nil (sq_n (w_seq (?_)))
      refine w_if rfl (fun h1 => ?_) (fun h1 => ?_)
      · skip
        try simp only [Za, Zb, Zc, Zd, Ze, Zf, Zg, Zh] at h1
        obtain ⟨f, hfi⟩ : ∃ f, fs[i]? = some f := ⟨_, List.getElem?_eq_getElem (by omega)⟩
        obtain ⟨hfn, hk1, hk2⟩ := hfl f (List.mem_of_getElem? hfi)
        have hul := uv_len10 (n := f.name.size) (by omega)
        have hbl := byts_length f.name
        have hkB := kB_int (f := f) (by omega)
        have hk31 := (mkF_kB (f := f) (by omega) hk2).2
        have hel : (encF f).length ≤ 100 := by simp only [encF, List.length_append, List.length_cons, List.length_nil]; omega
        refine w_skip (sq_n (w_seq (w_block (w_seq (w_region (?_))))))
        refine o_ev (ev_indexAddr rfl rfl _ rfl (by omega)) rfl ?_
        refine o_ev (ev_loadS_el rfl (by rfl) (by rfl) _ (by first | assumption | rfl | exact List.getElem?_eq_getElem (by omega))) rfl ?_
        refine o_st (st_alloc) rfl ?_
        rintro _ _ ⟨b2, rfl, rfl⟩
        refine o_st (st_store rfl rfl rfl) rfl ?_
        rintro _ _ ⟨rfl, rfl⟩
        refine o_nil (sq_n (w_seq (w_region (?_))))
        refine o_ev (ev_move rfl) rfl ?_
        refine o_ev (ev_fieldAddr rfl) rfl ?_
        refine o_ev (ev_load rfl) rfl ?_
        refine o_st (st_call (vs := [_]) rfl (refText f.name (by omega))) rfl ?_
        rintro _ _ ⟨s2, rfl, rfl⟩
        refine o_st (st_append rfl rfl rfl rfl (by simp only [List.length_append]; omega) (by simp only [List.length_append]; omega)) rfl ?_
        rintro _ _ ⟨s3, rfl, rfl⟩
        refine o_ev (ev_assign rfl) rfl ?_
        refine o_nil (sq_n (w_seq (w_region (?_))))
        refine o_ev (ev_fieldAddr rfl) rfl ?_
        refine o_ev (ev_load rfl) rfl ?_
        refine o_ev (ev_assign rfl) rfl ?_
        refine o_nil (sq_n (w_seq (w_seq (w_region (?_)))))
        refine o_ev (ev_fieldAddr rfl) rfl ?_
        refine o_ev (ev_load rfl) rfl ?_
        refine o_nil (sq_n (?_))
        refine w_if rfl (fun h2 => ?_) (fun h2 => ?_)
        · skip
          try simp only [Za, Zb, Zc, Zd, Ze, Zf, Zg, Zh] at h2
          refine w_region (?_)
          refine o_ev (ev_move rfl) rfl ?_
          refine o_ev (ev_add rfl rfl (by omega)) rfl ?_
          refine o_ev (ev_assign rfl) rfl ?_
          refine o_nil (sq_n (w_seq (w_seq (w_region (?_)))))
          refine o_ev (ev_fieldAddr rfl) rfl ?_
          refine o_ev (ev_load rfl) rfl ?_
          refine o_nil (sq_n (?_))
          refine w_if rfl (fun h3 => ?_) (fun h3 => ?_)
          · skip
            try simp only [Za, Zb, Zc, Zd, Ze, Zf, Zg, Zh] at h3
            refine w_region (?_)
            refine o_ev (ev_move rfl) rfl ?_
            refine o_ev (ev_add rfl rfl (by omega)) rfl ?_
            refine o_ev (ev_assign rfl) rfl ?_
            refine o_nil (sq_n (w_seq (w_seq (w_region (?_)))))
            refine o_ev (ev_fieldAddr rfl) rfl ?_
            refine o_ev (ev_load rfl) rfl ?_
            refine o_nil (sq_n (?_))
            refine w_if rfl (fun h4 => ?_) (fun h4 => ?_)
            · skip
              try simp only [Za, Zb, Zc, Zd, Ze, Zf, Zg, Zh] at h4
              refine w_region (?_)
              refine o_ev (ev_move rfl) rfl ?_
              refine o_ev (ev_add rfl rfl (by omega)) rfl ?_
              refine o_ev (ev_assign rfl) rfl ?_
              refine o_nil (sq_n (w_region (?_)))
              simp only [*, Bool.false_eq_true, ↓reduceIte] at hkB
              refine o_ev (ev_move rfl) rfl ?_
              refine o_ev (ev_move rfl) rfl ?_
              refine o_ev (ev_convL 256 rfl rfl rfl (kB f) (by omega) (by omega)) rfl ?_
              refine o_st (st_build1 eB rfl rfl) rfl ?_
              rintro _ _ ⟨s4, rfl, rfl⟩
              refine o_st (st_append rfl rfl rfl rfl (by simp only [List.length_append, List.length_cons, List.length_nil]; omega) (by simp only [List.length_append, List.length_cons, List.length_nil]; omega)) rfl ?_
              rintro _ _ ⟨s5, rfl, rfl⟩
              refine o_ev (ev_assign rfl) rfl ?_
              refine o_nil (bk_n (sq_n (w_region (?_))))
              refine o_ev (ev_add rfl rfl (by omega)) rfl ?_
              refine o_ev (ev_move rfl) rfl ?_
              refine o_nil (?_)
              skip
              refine lq_n ((s5, i + 1, zs ++ encF f)) ?_ ?_ ?_ ?_
              · (try dsimp only)
                refine ⟨by omega, ?_, by simp only [List.length_append]; omega⟩
                rw [hI, take_succ_get hfi, encFs_snoc, List.append_assoc]
              · (try dsimp only)
                omega
              · repeat (first | exact Sub.nil | refine Sub.cons rfl ?_)
              · (try dsimp only)
                rw [show zs ++ encF f = zs ++ (uv f.name.size ++ byts f.name) ++ [kB f] by simp [encF]]
                (repeat (first | exact Ka | refine Kb ?_ | refine Kc ?_ | refine Kf ?_ | refine Kd ?_ | refine Ke ?_ | refine Kh ?_ | refine Kg rfl ?_ | refine Ki ?_ | refine Kj ?_ | refine Kk ?_ | refine Kl ?_ | refine Km ?_ | refine Kn ?_ | refine Ko ?_))
            · skip
              try simp only [Za, Zb, Zc, Zd, Ze, Zf, Zg, Zh] at h4
              refine w_skip (sq_n (w_region (?_)))
              simp only [*, Bool.false_eq_true, ↓reduceIte] at hkB
              refine o_ev (ev_move rfl) rfl ?_
              refine o_ev (ev_move rfl) rfl ?_
              refine o_ev (ev_convL 256 rfl rfl rfl (kB f) (by omega) (by omega)) rfl ?_
              refine o_st (st_build1 eB rfl rfl) rfl ?_
              rintro _ _ ⟨s4, rfl, rfl⟩
              refine o_st (st_append rfl rfl rfl rfl (by simp only [List.length_append, List.length_cons, List.length_nil]; omega) (by simp only [List.length_append, List.length_cons, List.length_nil]; omega)) rfl ?_
              rintro _ _ ⟨s5, rfl, rfl⟩
              refine o_ev (ev_assign rfl) rfl ?_
              refine o_nil (bk_n (sq_n (w_region (?_))))
              refine o_ev (ev_add rfl rfl (by omega)) rfl ?_
              refine o_ev (ev_move rfl) rfl ?_
              refine o_nil (?_)
              skip
              refine lq_n ((s5, i + 1, zs ++ encF f)) ?_ ?_ ?_ ?_
              · (try dsimp only)
                refine ⟨by omega, ?_, by simp only [List.length_append]; omega⟩
                rw [hI, take_succ_get hfi, encFs_snoc, List.append_assoc]
              · (try dsimp only)
                omega
              · repeat (first | exact Sub.nil | refine Sub.cons rfl ?_)
              · (try dsimp only)
                rw [show zs ++ encF f = zs ++ (uv f.name.size ++ byts f.name) ++ [kB f] by simp [encF]]
                (repeat (first | exact Ka | refine Kb ?_ | refine Kc ?_ | refine Kf ?_ | refine Kd ?_ | refine Ke ?_ | refine Kh ?_ | refine Kg rfl ?_ | refine Ki ?_ | refine Kj ?_ | refine Kk ?_ | refine Kl ?_ | refine Km ?_ | refine Kn ?_ | refine Ko ?_))
          · skip
            try simp only [Za, Zb, Zc, Zd, Ze, Zf, Zg, Zh] at h3
            refine w_skip (sq_n (w_seq (w_seq (w_region (?_)))))
            refine o_ev (ev_fieldAddr rfl) rfl ?_
            refine o_ev (ev_load rfl) rfl ?_
            refine o_nil (sq_n (?_))
            refine w_if rfl (fun h5 => ?_) (fun h5 => ?_)
            · skip
              try simp only [Za, Zb, Zc, Zd, Ze, Zf, Zg, Zh] at h5
              refine w_region (?_)
              refine o_ev (ev_move rfl) rfl ?_
              refine o_ev (ev_add rfl rfl (by omega)) rfl ?_
              refine o_ev (ev_assign rfl) rfl ?_
              refine o_nil (sq_n (w_region (?_)))
              simp only [*, Bool.false_eq_true, ↓reduceIte] at hkB
              refine o_ev (ev_move rfl) rfl ?_
              refine o_ev (ev_move rfl) rfl ?_
              refine o_ev (ev_convL 256 rfl rfl rfl (kB f) (by omega) (by omega)) rfl ?_
              refine o_st (st_build1 eB rfl rfl) rfl ?_
              rintro _ _ ⟨s4, rfl, rfl⟩
              refine o_st (st_append rfl rfl rfl rfl (by simp only [List.length_append, List.length_cons, List.length_nil]; omega) (by simp only [List.length_append, List.length_cons, List.length_nil]; omega)) rfl ?_
              rintro _ _ ⟨s5, rfl, rfl⟩
              refine o_ev (ev_assign rfl) rfl ?_
              refine o_nil (bk_n (sq_n (w_region (?_))))
              refine o_ev (ev_add rfl rfl (by omega)) rfl ?_
              refine o_ev (ev_move rfl) rfl ?_
              refine o_nil (?_)
              skip
              refine lq_n ((s5, i + 1, zs ++ encF f)) ?_ ?_ ?_ ?_
              · (try dsimp only)
                refine ⟨by omega, ?_, by simp only [List.length_append]; omega⟩
                rw [hI, take_succ_get hfi, encFs_snoc, List.append_assoc]
              · (try dsimp only)
                omega
              · repeat (first | exact Sub.nil | refine Sub.cons rfl ?_)
              · (try dsimp only)
                rw [show zs ++ encF f = zs ++ (uv f.name.size ++ byts f.name) ++ [kB f] by simp [encF]]
                (repeat (first | exact Ka | refine Kb ?_ | refine Kc ?_ | refine Kf ?_ | refine Kd ?_ | refine Ke ?_ | refine Kh ?_ | refine Kg rfl ?_ | refine Ki ?_ | refine Kj ?_ | refine Kk ?_ | refine Kl ?_ | refine Km ?_ | refine Kn ?_ | refine Ko ?_))
            · skip
              try simp only [Za, Zb, Zc, Zd, Ze, Zf, Zg, Zh] at h5
              refine w_skip (sq_n (w_region (?_)))
              simp only [*, Bool.false_eq_true, ↓reduceIte] at hkB
              refine o_ev (ev_move rfl) rfl ?_
              refine o_ev (ev_move rfl) rfl ?_
              refine o_ev (ev_convL 256 rfl rfl rfl (kB f) (by omega) (by omega)) rfl ?_
              refine o_st (st_build1 eB rfl rfl) rfl ?_
              rintro _ _ ⟨s4, rfl, rfl⟩
              refine o_st (st_append rfl rfl rfl rfl (by simp only [List.length_append, List.length_cons, List.length_nil]; omega) (by simp only [List.length_append, List.length_cons, List.length_nil]; omega)) rfl ?_
              rintro _ _ ⟨s5, rfl, rfl⟩
              refine o_ev (ev_assign rfl) rfl ?_
              refine o_nil (bk_n (sq_n (w_region (?_))))
              refine o_ev (ev_add rfl rfl (by omega)) rfl ?_
              refine o_ev (ev_move rfl) rfl ?_
              refine o_nil (?_)
              skip
              refine lq_n ((s5, i + 1, zs ++ encF f)) ?_ ?_ ?_ ?_
              · (try dsimp only)
                refine ⟨by omega, ?_, by simp only [List.length_append]; omega⟩
                rw [hI, take_succ_get hfi, encFs_snoc, List.append_assoc]
              · (try dsimp only)
                omega
              · repeat (first | exact Sub.nil | refine Sub.cons rfl ?_)
              · (try dsimp only)
                rw [show zs ++ encF f = zs ++ (uv f.name.size ++ byts f.name) ++ [kB f] by simp [encF]]
                (repeat (first | exact Ka | refine Kb ?_ | refine Kc ?_ | refine Kf ?_ | refine Kd ?_ | refine Ke ?_ | refine Kh ?_ | refine Kg rfl ?_ | refine Ki ?_ | refine Kj ?_ | refine Kk ?_ | refine Kl ?_ | refine Km ?_ | refine Kn ?_ | refine Ko ?_))
        · skip
          try simp only [Za, Zb, Zc, Zd, Ze, Zf, Zg, Zh] at h2
          refine w_skip (sq_n (w_seq (w_seq (w_region (?_)))))
          refine o_ev (ev_fieldAddr rfl) rfl ?_
          refine o_ev (ev_load rfl) rfl ?_
          refine o_nil (sq_n (?_))
          refine w_if rfl (fun h6 => ?_) (fun h6 => ?_)
          · skip
            try simp only [Za, Zb, Zc, Zd, Ze, Zf, Zg, Zh] at h6
            refine w_region (?_)
            refine o_ev (ev_move rfl) rfl ?_
            refine o_ev (ev_add rfl rfl (by omega)) rfl ?_
            refine o_ev (ev_assign rfl) rfl ?_
            refine o_nil (sq_n (w_seq (w_seq (w_region (?_)))))
            refine o_ev (ev_fieldAddr rfl) rfl ?_
            refine o_ev (ev_load rfl) rfl ?_
            refine o_nil (sq_n (?_))
            refine w_if rfl (fun h7 => ?_) (fun h7 => ?_)
            · skip
              try simp only [Za, Zb, Zc, Zd, Ze, Zf, Zg, Zh] at h7
              refine w_region (?_)
              refine o_ev (ev_move rfl) rfl ?_
              refine o_ev (ev_add rfl rfl (by omega)) rfl ?_
              refine o_ev (ev_assign rfl) rfl ?_
              refine o_nil (sq_n (w_region (?_)))
              simp only [*, Bool.false_eq_true, ↓reduceIte] at hkB
              refine o_ev (ev_move rfl) rfl ?_
              refine o_ev (ev_move rfl) rfl ?_
              refine o_ev (ev_convL 256 rfl rfl rfl (kB f) (by omega) (by omega)) rfl ?_
              refine o_st (st_build1 eB rfl rfl) rfl ?_
              rintro _ _ ⟨s4, rfl, rfl⟩
              refine o_st (st_append rfl rfl rfl rfl (by simp only [List.length_append, List.length_cons, List.length_nil]; omega) (by simp only [List.length_append, List.length_cons, List.length_nil]; omega)) rfl ?_
              rintro _ _ ⟨s5, rfl, rfl⟩
              refine o_ev (ev_assign rfl) rfl ?_
              refine o_nil (bk_n (sq_n (w_region (?_))))
              refine o_ev (ev_add rfl rfl (by omega)) rfl ?_
              refine o_ev (ev_move rfl) rfl ?_
              refine o_nil (?_)
              skip
              refine lq_n ((s5, i + 1, zs ++ encF f)) ?_ ?_ ?_ ?_
              · (try dsimp only)
                refine ⟨by omega, ?_, by simp only [List.length_append]; omega⟩
                rw [hI, take_succ_get hfi, encFs_snoc, List.append_assoc]
              · (try dsimp only)
                omega
              · repeat (first | exact Sub.nil | refine Sub.cons rfl ?_)
              · (try dsimp only)
                rw [show zs ++ encF f = zs ++ (uv f.name.size ++ byts f.name) ++ [kB f] by simp [encF]]
                (repeat (first | exact Ka | refine Kb ?_ | refine Kc ?_ | refine Kf ?_ | refine Kd ?_ | refine Ke ?_ | refine Kh ?_ | refine Kg rfl ?_ | refine Ki ?_ | refine Kj ?_ | refine Kk ?_ | refine Kl ?_ | refine Km ?_ | refine Kn ?_ | refine Ko ?_))
            · skip
              try simp only [Za, Zb, Zc, Zd, Ze, Zf, Zg, Zh] at h7
              refine w_skip (sq_n (w_region (?_)))
              simp only [*, Bool.false_eq_true, ↓reduceIte] at hkB
              refine o_ev (ev_move rfl) rfl ?_
              refine o_ev (ev_move rfl) rfl ?_
              refine o_ev (ev_convL 256 rfl rfl rfl (kB f) (by omega) (by omega)) rfl ?_
              refine o_st (st_build1 eB rfl rfl) rfl ?_
              rintro _ _ ⟨s4, rfl, rfl⟩
              refine o_st (st_append rfl rfl rfl rfl (by simp only [List.length_append, List.length_cons, List.length_nil]; omega) (by simp only [List.length_append, List.length_cons, List.length_nil]; omega)) rfl ?_
              rintro _ _ ⟨s5, rfl, rfl⟩
              refine o_ev (ev_assign rfl) rfl ?_
              refine o_nil (bk_n (sq_n (w_region (?_))))
              refine o_ev (ev_add rfl rfl (by omega)) rfl ?_
              refine o_ev (ev_move rfl) rfl ?_
              refine o_nil (?_)
              skip
              refine lq_n ((s5, i + 1, zs ++ encF f)) ?_ ?_ ?_ ?_
              · (try dsimp only)
                refine ⟨by omega, ?_, by simp only [List.length_append]; omega⟩
                rw [hI, take_succ_get hfi, encFs_snoc, List.append_assoc]
              · (try dsimp only)
                omega
              · repeat (first | exact Sub.nil | refine Sub.cons rfl ?_)
              · (try dsimp only)
                rw [show zs ++ encF f = zs ++ (uv f.name.size ++ byts f.name) ++ [kB f] by simp [encF]]
                (repeat (first | exact Ka | refine Kb ?_ | refine Kc ?_ | refine Kf ?_ | refine Kd ?_ | refine Ke ?_ | refine Kh ?_ | refine Kg rfl ?_ | refine Ki ?_ | refine Kj ?_ | refine Kk ?_ | refine Kl ?_ | refine Km ?_ | refine Kn ?_ | refine Ko ?_))
          · skip
            try simp only [Za, Zb, Zc, Zd, Ze, Zf, Zg, Zh] at h6
            refine w_skip (sq_n (w_seq (w_seq (w_region (?_)))))
            refine o_ev (ev_fieldAddr rfl) rfl ?_
            refine o_ev (ev_load rfl) rfl ?_
            refine o_nil (sq_n (?_))
            refine w_if rfl (fun h8 => ?_) (fun h8 => ?_)
            · skip
              try simp only [Za, Zb, Zc, Zd, Ze, Zf, Zg, Zh] at h8
              refine w_region (?_)
              refine o_ev (ev_move rfl) rfl ?_
              refine o_ev (ev_add rfl rfl (by omega)) rfl ?_
              refine o_ev (ev_assign rfl) rfl ?_
              refine o_nil (sq_n (w_region (?_)))
              simp only [*, Bool.false_eq_true, ↓reduceIte] at hkB
              refine o_ev (ev_move rfl) rfl ?_
              refine o_ev (ev_move rfl) rfl ?_
              refine o_ev (ev_convL 256 rfl rfl rfl (kB f) (by omega) (by omega)) rfl ?_
              refine o_st (st_build1 eB rfl rfl) rfl ?_
              rintro _ _ ⟨s4, rfl, rfl⟩
              refine o_st (st_append rfl rfl rfl rfl (by simp only [List.length_append, List.length_cons, List.length_nil]; omega) (by simp only [List.length_append, List.length_cons, List.length_nil]; omega)) rfl ?_
              rintro _ _ ⟨s5, rfl, rfl⟩
              refine o_ev (ev_assign rfl) rfl ?_
              refine o_nil (bk_n (sq_n (w_region (?_))))
              refine o_ev (ev_add rfl rfl (by omega)) rfl ?_
              refine o_ev (ev_move rfl) rfl ?_
              refine o_nil (?_)
              skip
              refine lq_n ((s5, i + 1, zs ++ encF f)) ?_ ?_ ?_ ?_
              · (try dsimp only)
                refine ⟨by omega, ?_, by simp only [List.length_append]; omega⟩
                rw [hI, take_succ_get hfi, encFs_snoc, List.append_assoc]
              · (try dsimp only)
                omega
              · repeat (first | exact Sub.nil | refine Sub.cons rfl ?_)
              · (try dsimp only)
                rw [show zs ++ encF f = zs ++ (uv f.name.size ++ byts f.name) ++ [kB f] by simp [encF]]
                (repeat (first | exact Ka | refine Kb ?_ | refine Kc ?_ | refine Kf ?_ | refine Kd ?_ | refine Ke ?_ | refine Kh ?_ | refine Kg rfl ?_ | refine Ki ?_ | refine Kj ?_ | refine Kk ?_ | refine Kl ?_ | refine Km ?_ | refine Kn ?_ | refine Ko ?_))
            · skip
              try simp only [Za, Zb, Zc, Zd, Ze, Zf, Zg, Zh] at h8
              refine w_skip (sq_n (w_region (?_)))
              simp only [*, Bool.false_eq_true, ↓reduceIte] at hkB
              refine o_ev (ev_move rfl) rfl ?_
              refine o_ev (ev_move rfl) rfl ?_
              refine o_ev (ev_convL 256 rfl rfl rfl (kB f) (by omega) (by omega)) rfl ?_
              refine o_st (st_build1 eB rfl rfl) rfl ?_
              rintro _ _ ⟨s4, rfl, rfl⟩
              refine o_st (st_append rfl rfl rfl rfl (by simp only [List.length_append, List.length_cons, List.length_nil]; omega) (by simp only [List.length_append, List.length_cons, List.length_nil]; omega)) rfl ?_
              rintro _ _ ⟨s5, rfl, rfl⟩
              refine o_ev (ev_assign rfl) rfl ?_
              refine o_nil (bk_n (sq_n (w_region (?_))))
              refine o_ev (ev_add rfl rfl (by omega)) rfl ?_
              refine o_ev (ev_move rfl) rfl ?_
              refine o_nil (?_)
              skip
              refine lq_n ((s5, i + 1, zs ++ encF f)) ?_ ?_ ?_ ?_
              · (try dsimp only)
                refine ⟨by omega, ?_, by simp only [List.length_append]; omega⟩
                rw [hI, take_succ_get hfi, encFs_snoc, List.append_assoc]
              · (try dsimp only)
                omega
              · repeat (first | exact Sub.nil | refine Sub.cons rfl ?_)
              · (try dsimp only)
                rw [show zs ++ encF f = zs ++ (uv f.name.size ++ byts f.name) ++ [kB f] by simp [encF]]
                (repeat (first | exact Ka | refine Kb ?_ | refine Kc ?_ | refine Kf ?_ | refine Kd ?_ | refine Ke ?_ | refine Kh ?_ | refine Kg rfl ?_ | refine Ki ?_ | refine Kj ?_ | refine Kk ?_ | refine Kl ?_ | refine Km ?_ | refine Kn ?_ | refine Ko ?_))
      · skip
        try simp only [Za, Zb, Zc, Zd, Ze, Zf, Zg, Zh] at h1
        obtain rfl : i = fs.length := by omega
        rw [List.take_length] at hI
        have hI' : zs = encS fs := hI
        subst hI'
        refine w_exit (sq_e (lq_e (bk_h (sq_n (w_seq (w_region (?_)))))))
        refine o_ev (ev_move rfl) rfl ?_
        refine o_ev (ev_assign rfl) rfl ?_
        refine o_ev (ev_assign rfl) rfl ?_
        refine o_nil (sq_n (w_ret (?_)))
        refine res_intro (vs := [_, _]) Tryz.results31 (.inr rfl) (.cons (.tmp rfl) (.cons (.tmp rfl) (.nil))) ?_
        exact ⟨_, by (repeat (first | exact Ka | refine Kb ?_ | refine Kc ?_ | refine Kf ?_ | refine Kd ?_ | refine Ke ?_ | refine Kh ?_ | refine Kg rfl ?_ | refine Ki ?_ | refine Kj ?_ | refine Kk ?_ | refine Kl ?_ | refine Km ?_ | refine Kn ?_ | refine Ko ?_)), .inr ⟨hc, so, rfl, rfl⟩⟩
end Go.Sx
