import Derived.Test.YtcbidldebfibkaaGreatDoorW16
set_option linter.unusedVariables false
set_option linter.unusedSimpArgs false
set_option linter.unusedSectionVars false
set_option linter.unnecessarySimpa false
namespace Go.Sx
open Go Go.Proofs
set_option maxRecDepth 100000
set_option linter.unusedSimpArgs false
set_option linter.unusedVariables false

/-! ## Schemas -/
structure FV where
  name : ByteArray
  kind : Int
  fold : Bool
  stop : Bool
  stem : Bool
def eF : Enc FV := ⟨fun p => [.string p.name, .int .i64 p.kind, .bool p.fold, .bool p.stop, .bool p.stem], 5, true, fun _ => rfl, fun p v h => by simp at h; rcases h with rfl | rfl | rfl | rfl | rfl <;> rfl, by decide, fun h => by simp at h, by decide⟩
instance {p : FV} : EncW eF p (.agg [.string p.name, .int .i64 p.kind, .bool p.fold, .bool p.stop, .bool p.stem].toArray) := ⟨rfl⟩
instance {n : ByteArray} {k : Int} {a b c : Bool} : EncV eF (.agg [.string n, .int .i64 k, .bool a, .bool b, .bool c].toArray) ⟨n, k, a, b, c⟩ := ⟨rfl⟩

def chOk (i c : Nat) : Bool := decide ((97 ≤ c ∧ c ≤ 122) ∨ (i ≠ 0 ∧ (c = 95 ∨ (48 ≤ c ∧ c ≤ 57))))
def chAll : Nat → List Nat → Bool
  | _, [] => true
  | i, c :: r => chOk i c && chAll (i + 1) r
def goodN (l : List Nat) : Bool := decide (1 ≤ l.length ∧ l.length ≤ 32) && chAll 0 l
def goodK (f : FV) : Bool := if f.kind = 1 then true else if f.kind = 2 ∨ f.kind = 3 then !f.fold && !f.stop && !f.stem else false
def chkL : List (List Nat) → List FV → Bool
  | _, [] => true
  | seen, f :: r => !decide (byts f.name ∈ seen) && (goodN (byts f.name) && (goodK f && chkL (seen ++ [byts f.name]) r))
def chkS (fs : List FV) : Bool := decide (1 ≤ fs.length ∧ fs.length ≤ 16) && chkL [] fs

theorem goodName {G : Base} {H : Heap} (s : ByteArray) (hn : s.size ≤ 1000000000000) : SC G Tryz.prog 114 [.string s] H (fun v H' => v = .bool (goodN (byts s)) ∧ H' = H) := by
  have hs := byts_length s
  refine SC.out (sc_walk Tryz.func114 rfl Tryz.ntmps114 (by kernel_rfl) (Nat.le_of_ble_eq_true rfl) ?_)
  refine w_seq (w_region (?_))
  refine o_ev (ev_assign rfl) rfl ?_
  refine o_nil (sq_n (w_seq (w_seq (w_region (?_)))))
  refine o_ev (ev_move rfl) rfl ?_
  refine o_ev (ev_len_str1 rfl) rfl ?_
  refine o_ev (ev_lss rfl rfl) rfl ?_
  refine o_split (ev_move rfl) rfl (fun h1 => ?_) (fun h1 => ?_)
  · skip
    try simp only [Za, Zb, Zc, Zd, Ze, Zf, Zg, Zh] at h1
    refine o_off rfl rfl rfl ?_
    refine o_off rfl rfl rfl ?_
    refine o_off rfl rfl rfl ?_
    refine o_ev (ev_pick_t rfl rfl) rfl ?_
    refine o_nil (sq_n (?_))
    refine w_if_true rfl (w_seq (w_region (?_)))
    refine o_ev (ev_assign rfl) rfl ?_
    refine o_nil (sq_n (w_ret (sq_r (?_))))
    refine res_intro (vs := [_]) Tryz.results114 (.inr rfl) (.cons (.tmp rfl) (.nil)) ?_
    have e : goodN (byts s) = false := by unfold goodN; rw [decide_eq_false (by omega)]; rfl
    exact ⟨_, Ka, by rw [e]; rfl, rfl⟩
  · skip
    try simp only [Za, Zb, Zc, Zd, Ze, Zf, Zg, Zh] at h1
    refine o_on_ev rfl rfl rfl (ev_move rfl) ?_
    refine o_on_ev rfl rfl rfl (ev_len_str1 rfl) ?_
    refine o_on_ev rfl rfl rfl (ev_gtr rfl rfl) ?_
    refine o_ev (ev_pick_f rfl rfl) rfl ?_
    refine o_nil (sq_n (?_))
    refine w_if rfl (fun h2 => ?_) (fun h2 => ?_)
    · skip
      try simp only [Za, Zb, Zc, Zd, Ze, Zf, Zg, Zh] at h2
      refine w_seq (w_region (?_))
      refine o_ev (ev_assign rfl) rfl ?_
      refine o_nil (sq_n (w_ret (sq_r (?_))))
      refine res_intro (vs := [_]) Tryz.results114 (.inr rfl) (.cons (.tmp rfl) (.nil)) ?_
      have e : goodN (byts s) = false := by unfold goodN; rw [decide_eq_false (by omega)]; rfl
      exact ⟨_, Ka, by rw [e]; rfl, rfl⟩
    · skip
      try simp only [Za, Zb, Zc, Zd, Ze, Zf, Zg, Zh] at h2
      have e : goodN (byts s) = chAll 0 (byts s) := by unfold goodN; rw [decide_eq_true (by omega)]; rfl
      refine w_skip (sq_n (w_seq (w_seq (w_region (?_)))))
      refine o_ev (ev_move rfl) rfl ?_
      refine o_ev (ev_len_str1 rfl) rfl ?_
      refine o_ev (ev_move rfl) rfl ?_
      refine o_nil (sq_n (w_block (?_)))
      refine w_loop (Nat) (fun i => i ≤ s.size ∧ goodN (byts s) = chAll i ((byts s).drop i)) (fun i => [(0, .string s), (15, .int .i64 ((s.size : Nat) : Int)), (16, .int .i64 ((i : Nat) : Int))]) (fun _ => H) (fun i => s.size - i) (0) ?_ ?_ ?_ ?_
      · (try dsimp only)
        exact ⟨Nat.zero_le _, by rw [e, List.drop_zero]⟩
      · repeat (first | exact Sub.nil | refine Sub.cons rfl ?_)
      · (try dsimp only)
        (repeat (first | exact Ka | refine Kb ?_ | refine Kc ?_ | refine Kf ?_ | refine Kd ?_ | refine Ke ?_ | refine Kh ?_ | refine Kg rfl ?_ | refine Ki ?_ | refine Kj ?_ | refine Kk ?_ | refine Kl ?_ | refine Km ?_ | refine Kn ?_ | refine Ko ?_))
      · rintro i ⟨hi, hI⟩
        (try dsimp only at *)
        refine w_seq (w_region (?_))
        refine o_ev (ev_lss rfl rfl) rfl ?_
        refine o_nil (sq_n (w_seq (?_)))
        refine w_if rfl (fun h3 => ?_) (fun h3 => ?_)
        · skip
          try simp only [Za, Zb, Zc, Zd, Ze, Zf, Zg, Zh] at h3
          obtain ⟨c, hc⟩ : ∃ c, (byts s)[i]? = some c := ⟨_, List.getElem?_eq_getElem (by omega)⟩
          rw [drop_get hc, chAll] at hI
          refine w_skip (sq_n (w_seq (w_block (w_seq (w_region (?_))))))
          refine o_ev (ev_move rfl) rfl ?_
          refine o_ev (ev_assign rfl) rfl ?_
          refine o_nil (sq_n (w_seq (w_region (?_))))
          refine o_ev (ev_move rfl) rfl ?_
          refine o_ev (ev_move rfl) rfl ?_
          refine o_ev (ev_index_str rfl rfl _ rfl _ (by first | assumption | rfl | exact List.getElem?_eq_getElem (by omega))) rfl ?_
          refine o_ev (ev_assign rfl) rfl ?_
          refine o_nil (sq_n (w_seq (w_region (?_))))
          refine o_ev (ev_move rfl) rfl ?_
          refine o_ev (ev_geq rfl rfl) rfl ?_
          refine o_split (ev_move rfl) rfl (fun h4 => ?_) (fun h4 => ?_)
          · skip
            try simp only [Za, Zb, Zc, Zd, Ze, Zf, Zg, Zh] at h4
            refine o_on_ev rfl rfl rfl (ev_move rfl) ?_
            refine o_on_ev rfl rfl rfl (ev_leq rfl rfl) ?_
            refine o_ev (ev_pick_t rfl rfl) rfl ?_
            refine o_ev (ev_assign rfl) rfl ?_
            refine o_nil (sq_n (w_seq (w_region (?_))))
            refine o_ev (ev_move rfl) rfl ?_
            refine o_ev (ev_not rfl) rfl ?_
            refine o_split (ev_move rfl) rfl (fun h5 => ?_) (fun h5 => ?_)
            · skip
              try simp only [Za, Zb, Zc, Zd, Ze, Zf, Zg, Zh] at h5
              refine o_on_ev rfl rfl rfl (ev_move rfl) ?_
              refine o_on_ev rfl rfl rfl (ev_eql rfl rfl) ?_
              refine o_split_on rfl rfl (ev_move rfl) rfl (fun h6 => ?_) (fun h6 => ?_)
              · skip
                try simp only [Za, Zb, Zc, Zd, Ze, Zf, Zg, Zh] at h6
                refine o_off rfl rfl rfl ?_
                refine o_off rfl rfl rfl ?_
                refine o_off rfl rfl rfl ?_
                refine o_off_u rfl rfl rfl ?_
                refine o_off_u rfl rfl rfl ?_
                refine o_off_u rfl rfl rfl ?_
                refine o_off_u rfl rfl rfl ?_
                refine o_off_u rfl rfl rfl ?_
                refine o_off_u rfl rfl rfl ?_
                refine o_off rfl rfl rfl ?_
                refine o_on_ev rfl rfl rfl (ev_pick_t rfl rfl) ?_
                refine o_ev (ev_pick_t rfl rfl) rfl ?_
                refine o_nil (sq_n (?_))
                refine w_if_true rfl (w_seq (w_region (?_)))
                refine o_ev (ev_assign rfl) rfl ?_
                refine o_nil (sq_n (w_ret (bk_r (sq_r (lq_r (bk_r (sq_r (?_))))))))
                refine res_intro (vs := [_]) Tryz.results114 (.inr rfl) (.cons (.tmp rfl) (.nil)) ?_
                exact ⟨_, Ka, by rw [hI, show chOk i c = false from decide_eq_false (by omega)]; rfl, rfl⟩
              · skip
                try simp only [Za, Zb, Zc, Zd, Ze, Zf, Zg, Zh] at h6
                refine o_on_ev rfl rfl rfl (ev_move rfl) ?_
                refine o_on_ev rfl rfl rfl (ev_neq rfl rfl) ?_
                refine o_split_on rfl rfl (ev_move rfl) rfl (fun h7 => ?_) (fun h7 => ?_)
                · skip
                  try simp only [Za, Zb, Zc, Zd, Ze, Zf, Zg, Zh] at h7
                  refine o_on_ev rfl rfl rfl (ev_move rfl) ?_
                  refine o_on_ev rfl rfl rfl (ev_lss rfl rfl) ?_
                  refine o_split_on rfl rfl (ev_move rfl) rfl (fun h8 => ?_) (fun h8 => ?_)
                  · skip
                    try simp only [Za, Zb, Zc, Zd, Ze, Zf, Zg, Zh] at h8
                    refine o_off rfl rfl rfl ?_
                    refine o_off rfl rfl rfl ?_
                    refine o_on_ev rfl rfl rfl (ev_pick_t rfl rfl) ?_
                    refine o_on_ev rfl rfl rfl (ev_pick_t rfl rfl) ?_
                    refine o_on_ev rfl rfl rfl (ev_pick_f rfl rfl) ?_
                    refine o_ev (ev_pick_t rfl rfl) rfl ?_
                    refine o_nil (sq_n (?_))
                    refine w_if_true rfl (w_seq (w_region (?_)))
                    refine o_ev (ev_assign rfl) rfl ?_
                    refine o_nil (sq_n (w_ret (bk_r (sq_r (lq_r (bk_r (sq_r (?_))))))))
                    refine res_intro (vs := [_]) Tryz.results114 (.inr rfl) (.cons (.tmp rfl) (.nil)) ?_
                    exact ⟨_, Ka, by rw [hI, show chOk i c = false from decide_eq_false (by omega)]; rfl, rfl⟩
                  · skip
                    try simp only [Za, Zb, Zc, Zd, Ze, Zf, Zg, Zh] at h8
                    refine o_on_ev rfl rfl rfl (ev_move rfl) ?_
                    refine o_on_ev rfl rfl rfl (ev_gtr rfl rfl) ?_
                    refine o_on_ev rfl rfl rfl (ev_pick_f rfl rfl) ?_
                    refine o_on_ev rfl rfl rfl (ev_pick_t rfl rfl) ?_
                    refine o_on_ev rfl rfl rfl (ev_pick_f rfl rfl) ?_
                    refine o_ev (ev_pick_t rfl rfl) rfl ?_
                    refine o_nil (sq_n (?_))
                    refine w_if rfl (fun h9 => ?_) (fun h9 => ?_)
                    · skip
                      try simp only [Za, Zb, Zc, Zd, Ze, Zf, Zg, Zh] at h9
                      refine w_seq (w_region (?_))
                      refine o_ev (ev_assign rfl) rfl ?_
                      refine o_nil (sq_n (w_ret (bk_r (sq_r (lq_r (bk_r (sq_r (?_))))))))
                      refine res_intro (vs := [_]) Tryz.results114 (.inr rfl) (.cons (.tmp rfl) (.nil)) ?_
                      exact ⟨_, Ka, by rw [hI, show chOk i c = false from decide_eq_false (by omega)]; rfl, rfl⟩
                    · skip
                      try simp only [Za, Zb, Zc, Zd, Ze, Zf, Zg, Zh] at h9
                      refine w_skip (bk_n (sq_n (w_region (?_))))
                      refine o_ev (ev_add rfl rfl (by omega)) rfl ?_
                      refine o_ev (ev_move rfl) rfl ?_
                      refine o_nil (?_)
                      skip
                      refine lq_n (i + 1) ?_ ?_ ?_ ?_
                      · (try dsimp only)
                        refine ⟨by omega, ?_⟩
                        rw [hI, show chOk i c = true from decide_eq_true (by omega), Bool.true_and]
                      · (try dsimp only)
                        omega
                      · repeat (first | exact Sub.nil | refine Sub.cons rfl ?_)
                      · (try dsimp only)
                        (repeat (first | exact Ka | refine Kb ?_ | refine Kc ?_ | refine Kf ?_ | refine Kd ?_ | refine Ke ?_ | refine Kh ?_ | refine Kg rfl ?_ | refine Ki ?_ | refine Kj ?_ | refine Kk ?_ | refine Kl ?_ | refine Km ?_ | refine Kn ?_ | refine Ko ?_))
                · skip
                  try simp only [Za, Zb, Zc, Zd, Ze, Zf, Zg, Zh] at h7
                  refine o_off rfl rfl rfl ?_
                  refine o_off rfl rfl rfl ?_
                  refine o_off rfl rfl rfl ?_
                  refine o_off_u rfl rfl rfl ?_
                  refine o_off_u rfl rfl rfl ?_
                  refine o_off rfl rfl rfl ?_
                  refine o_on_ev rfl rfl rfl (ev_pick_f rfl rfl) ?_
                  refine o_on_ev rfl rfl rfl (ev_pick_f rfl rfl) ?_
                  refine o_ev (ev_pick_t rfl rfl) rfl ?_
                  refine o_nil (sq_n (?_))
                  refine w_if_false rfl (w_skip (bk_n (sq_n (w_region (?_)))))
                  refine o_ev (ev_add rfl rfl (by omega)) rfl ?_
                  refine o_ev (ev_move rfl) rfl ?_
                  refine o_nil (?_)
                  skip
                  refine lq_n (i + 1) ?_ ?_ ?_ ?_
                  · (try dsimp only)
                    refine ⟨by omega, ?_⟩
                    rw [hI, show chOk i c = true from decide_eq_true (by omega), Bool.true_and]
                  · (try dsimp only)
                    omega
                  · repeat (first | exact Sub.nil | refine Sub.cons rfl ?_)
                  · (try dsimp only)
                    (repeat (first | exact Ka | refine Kb ?_ | refine Kc ?_ | refine Kf ?_ | refine Kd ?_ | refine Ke ?_ | refine Kh ?_ | refine Kg rfl ?_ | refine Ki ?_ | refine Kj ?_ | refine Kk ?_ | refine Kl ?_ | refine Km ?_ | refine Kn ?_ | refine Ko ?_))
            · skip
              try simp only [Za, Zb, Zc, Zd, Ze, Zf, Zg, Zh] at h5
              refine o_off rfl rfl rfl ?_
              refine o_off rfl rfl rfl ?_
              refine o_off rfl rfl rfl ?_
              refine o_off_u rfl rfl rfl ?_
              refine o_off_u rfl rfl rfl ?_
              refine o_off_u rfl rfl rfl ?_
              refine o_off_u rfl rfl rfl ?_
              refine o_off_u rfl rfl rfl ?_
              refine o_off_u rfl rfl rfl ?_
              refine o_off_u rfl rfl rfl ?_
              refine o_off_u rfl rfl rfl ?_
              refine o_off_u rfl rfl rfl ?_
              refine o_off_u rfl rfl rfl ?_
              refine o_off rfl rfl rfl ?_
              refine o_ev (ev_pick_f rfl rfl) rfl ?_
              refine o_nil (sq_n (?_))
              refine w_if_false rfl (w_skip (bk_n (sq_n (w_region (?_)))))
              refine o_ev (ev_add rfl rfl (by omega)) rfl ?_
              refine o_ev (ev_move rfl) rfl ?_
              refine o_nil (?_)
              skip
              refine lq_n (i + 1) ?_ ?_ ?_ ?_
              · (try dsimp only)
                refine ⟨by omega, ?_⟩
                rw [hI, show chOk i c = true from decide_eq_true (by omega), Bool.true_and]
              · (try dsimp only)
                omega
              · repeat (first | exact Sub.nil | refine Sub.cons rfl ?_)
              · (try dsimp only)
                (repeat (first | exact Ka | refine Kb ?_ | refine Kc ?_ | refine Kf ?_ | refine Kd ?_ | refine Ke ?_ | refine Kh ?_ | refine Kg rfl ?_ | refine Ki ?_ | refine Kj ?_ | refine Kk ?_ | refine Kl ?_ | refine Km ?_ | refine Kn ?_ | refine Ko ?_))
          · skip
            try simp only [Za, Zb, Zc, Zd, Ze, Zf, Zg, Zh] at h4
            refine o_off rfl rfl rfl ?_
            refine o_off rfl rfl rfl ?_
            refine o_ev (ev_pick_f rfl rfl) rfl ?_
            refine o_ev (ev_assign rfl) rfl ?_
            refine o_nil (sq_n (w_seq (w_region (?_))))
            refine o_ev (ev_move rfl) rfl ?_
            refine o_ev (ev_not rfl) rfl ?_
            refine o_ev (ev_move rfl) rfl ?_
            refine o_on_ev rfl rfl rfl (ev_move rfl) ?_
            refine o_on_ev rfl rfl rfl (ev_eql rfl rfl) ?_
            refine o_split_on rfl rfl (ev_move rfl) rfl (fun h10 => ?_) (fun h10 => ?_)
            · skip
              try simp only [Za, Zb, Zc, Zd, Ze, Zf, Zg, Zh] at h10
              refine o_off rfl rfl rfl ?_
              refine o_off rfl rfl rfl ?_
              refine o_off rfl rfl rfl ?_
              refine o_off_u rfl rfl rfl ?_
              refine o_off_u rfl rfl rfl ?_
              refine o_off_u rfl rfl rfl ?_
              refine o_off_u rfl rfl rfl ?_
              refine o_off_u rfl rfl rfl ?_
              refine o_off_u rfl rfl rfl ?_
              refine o_off rfl rfl rfl ?_
              refine o_on_ev rfl rfl rfl (ev_pick_t rfl rfl) ?_
              refine o_ev (ev_pick_t rfl rfl) rfl ?_
              refine o_nil (sq_n (?_))
              refine w_if_true rfl (w_seq (w_region (?_)))
              refine o_ev (ev_assign rfl) rfl ?_
              refine o_nil (sq_n (w_ret (bk_r (sq_r (lq_r (bk_r (sq_r (?_))))))))
              refine res_intro (vs := [_]) Tryz.results114 (.inr rfl) (.cons (.tmp rfl) (.nil)) ?_
              exact ⟨_, Ka, by rw [hI, show chOk i c = false from decide_eq_false (by omega)]; rfl, rfl⟩
            · skip
              try simp only [Za, Zb, Zc, Zd, Ze, Zf, Zg, Zh] at h10
              refine o_on_ev rfl rfl rfl (ev_move rfl) ?_
              refine o_on_ev rfl rfl rfl (ev_neq rfl rfl) ?_
              refine o_split_on rfl rfl (ev_move rfl) rfl (fun h11 => ?_) (fun h11 => ?_)
              · skip
                try simp only [Za, Zb, Zc, Zd, Ze, Zf, Zg, Zh] at h11
                refine o_on_ev rfl rfl rfl (ev_move rfl) ?_
                refine o_on_ev rfl rfl rfl (ev_lss rfl rfl) ?_
                refine o_split_on rfl rfl (ev_move rfl) rfl (fun h12 => ?_) (fun h12 => ?_)
                · skip
                  try simp only [Za, Zb, Zc, Zd, Ze, Zf, Zg, Zh] at h12
                  refine o_off rfl rfl rfl ?_
                  refine o_off rfl rfl rfl ?_
                  refine o_on_ev rfl rfl rfl (ev_pick_t rfl rfl) ?_
                  refine o_on_ev rfl rfl rfl (ev_pick_t rfl rfl) ?_
                  refine o_on_ev rfl rfl rfl (ev_pick_f rfl rfl) ?_
                  refine o_ev (ev_pick_t rfl rfl) rfl ?_
                  refine o_nil (sq_n (?_))
                  refine w_if_true rfl (w_seq (w_region (?_)))
                  refine o_ev (ev_assign rfl) rfl ?_
                  refine o_nil (sq_n (w_ret (bk_r (sq_r (lq_r (bk_r (sq_r (?_))))))))
                  refine res_intro (vs := [_]) Tryz.results114 (.inr rfl) (.cons (.tmp rfl) (.nil)) ?_
                  exact ⟨_, Ka, by rw [hI, show chOk i c = false from decide_eq_false (by omega)]; rfl, rfl⟩
                · skip
                  try simp only [Za, Zb, Zc, Zd, Ze, Zf, Zg, Zh] at h12
                  refine o_on_ev rfl rfl rfl (ev_move rfl) ?_
                  refine o_on_ev rfl rfl rfl (ev_gtr rfl rfl) ?_
                  refine o_on_ev rfl rfl rfl (ev_pick_f rfl rfl) ?_
                  refine o_on_ev rfl rfl rfl (ev_pick_t rfl rfl) ?_
                  refine o_on_ev rfl rfl rfl (ev_pick_f rfl rfl) ?_
                  refine o_ev (ev_pick_t rfl rfl) rfl ?_
                  refine o_nil (sq_n (?_))
                  refine w_if rfl (fun h13 => ?_) (fun h13 => ?_)
                  · skip
                    try simp only [Za, Zb, Zc, Zd, Ze, Zf, Zg, Zh] at h13
                    refine w_seq (w_region (?_))
                    refine o_ev (ev_assign rfl) rfl ?_
                    refine o_nil (sq_n (w_ret (bk_r (sq_r (lq_r (bk_r (sq_r (?_))))))))
                    refine res_intro (vs := [_]) Tryz.results114 (.inr rfl) (.cons (.tmp rfl) (.nil)) ?_
                    exact ⟨_, Ka, by rw [hI, show chOk i c = false from decide_eq_false (by omega)]; rfl, rfl⟩
                  · skip
                    try simp only [Za, Zb, Zc, Zd, Ze, Zf, Zg, Zh] at h13
                    refine w_skip (bk_n (sq_n (w_region (?_))))
                    refine o_ev (ev_add rfl rfl (by omega)) rfl ?_
                    refine o_ev (ev_move rfl) rfl ?_
                    refine o_nil (?_)
                    skip
                    refine lq_n (i + 1) ?_ ?_ ?_ ?_
                    · (try dsimp only)
                      refine ⟨by omega, ?_⟩
                      rw [hI, show chOk i c = true from decide_eq_true (by omega), Bool.true_and]
                    · (try dsimp only)
                      omega
                    · repeat (first | exact Sub.nil | refine Sub.cons rfl ?_)
                    · (try dsimp only)
                      (repeat (first | exact Ka | refine Kb ?_ | refine Kc ?_ | refine Kf ?_ | refine Kd ?_ | refine Ke ?_ | refine Kh ?_ | refine Kg rfl ?_ | refine Ki ?_ | refine Kj ?_ | refine Kk ?_ | refine Kl ?_ | refine Km ?_ | refine Kn ?_ | refine Ko ?_))
              · skip
                try simp only [Za, Zb, Zc, Zd, Ze, Zf, Zg, Zh] at h11
                refine o_off rfl rfl rfl ?_
                refine o_off rfl rfl rfl ?_
                refine o_off rfl rfl rfl ?_
                refine o_off_u rfl rfl rfl ?_
                refine o_off_u rfl rfl rfl ?_
                refine o_off rfl rfl rfl ?_
                refine o_on_ev rfl rfl rfl (ev_pick_f rfl rfl) ?_
                refine o_on_ev rfl rfl rfl (ev_pick_f rfl rfl) ?_
                refine o_ev (ev_pick_t rfl rfl) rfl ?_
                refine o_nil (sq_n (?_))
                refine w_if_false rfl (w_skip (bk_n (sq_n (w_region (?_)))))
                refine o_ev (ev_add rfl rfl (by omega)) rfl ?_
                refine o_ev (ev_move rfl) rfl ?_
                refine o_nil (?_)
                skip
                refine lq_n (i + 1) ?_ ?_ ?_ ?_
                · (try dsimp only)
                  refine ⟨by omega, ?_⟩
                  rw [hI, show chOk i c = true from decide_eq_true (by omega), Bool.true_and]
                · (try dsimp only)
                  omega
                · repeat (first | exact Sub.nil | refine Sub.cons rfl ?_)
                · (try dsimp only)
                  (repeat (first | exact Ka | refine Kb ?_ | refine Kc ?_ | refine Kf ?_ | refine Kd ?_ | refine Ke ?_ | refine Kh ?_ | refine Kg rfl ?_ | refine Ki ?_ | refine Kj ?_ | refine Kk ?_ | refine Kl ?_ | refine Km ?_ | refine Kn ?_ | refine Ko ?_))
        · skip
          try simp only [Za, Zb, Zc, Zd, Ze, Zf, Zg, Zh] at h3
          obtain rfl : i = s.size := by omega
          rw [List.drop_of_length_le (by omega), chAll] at hI
          refine w_exit (sq_e (lq_e (bk_h (sq_n (w_seq (w_region (?_)))))))
          refine o_ev (ev_assign rfl) rfl ?_
          refine o_nil (sq_n (w_ret (?_)))
          refine res_intro (vs := [_]) Tryz.results114 (.inr rfl) (.cons (.tmp rfl) (.nil)) ?_
          exact ⟨_, Ka, by rw [hI]; rfl, rfl⟩

theorem goodKind {G : Base} {H : Heap} (f : FV) : SC G Tryz.prog 115 [.agg [.string f.name, .int .i64 f.kind, .bool f.fold, .bool f.stop, .bool f.stem].toArray] H (fun v H' => v = .bool (goodK f) ∧ H' = H) := by
  refine SC.out (sc_walk Tryz.func115 rfl Tryz.ntmps115 (by kernel_rfl) (Nat.le_of_ble_eq_true rfl) ?_)
  refine w_seq (w_region (?_))
  refine o_st (st_box rfl) rfl ?_
  rintro _ _ ⟨b1, rfl, rfl⟩
  refine o_ev (ev_assign rfl) rfl ?_
  refine o_nil (sq_n (w_seq (w_seq (w_region (?_)))))
  refine o_ev (ev_fieldAddr rfl) rfl ?_
  refine o_ev (ev_load rfl) rfl ?_
  refine o_nil (sq_n (w_block (w_seq (w_region (?_)))))
  refine o_ev (ev_eql rfl rfl) rfl ?_
  refine o_ev (ev_assign rfl) rfl ?_
  refine o_nil (sq_n (?_))
  refine w_if rfl (fun h1 => ?_) (fun h1 => ?_)
  · skip
    try simp only [Za, Zb, Zc, Zd, Ze, Zf, Zg, Zh] at h1
    refine w_seq (w_region (?_))
    refine o_ev (ev_assign rfl) rfl ?_
    refine o_nil (sq_n (w_ret (bk_r (sq_r (?_)))))
    refine res_intro (vs := [_]) Tryz.results115 (.inr rfl) (.cons (.tmp rfl) (.nil)) ?_
    exact ⟨_, by (repeat (first | exact Ka | refine Kb ?_ | refine Kc ?_ | refine Kf ?_ | refine Kd ?_ | refine Ke ?_ | refine Kh ?_ | refine Kg rfl ?_ | refine Ki ?_ | refine Kj ?_ | refine Kk ?_ | refine Kl ?_ | refine Km ?_ | refine Kn ?_ | refine Ko ?_)), by unfold goodK; rw [if_pos (by assumption)]; rfl, rfl⟩
  · skip
    try simp only [Za, Zb, Zc, Zd, Ze, Zf, Zg, Zh] at h1
    refine w_seq (w_seq (w_region (?_)))
    refine o_ev (ev_eql rfl rfl) rfl ?_
    refine o_ev (ev_assign rfl) rfl ?_
    refine o_nil (sq_n (?_))
    refine w_if rfl (fun h2 => ?_) (fun h2 => ?_)
    · skip
      try simp only [Za, Zb, Zc, Zd, Ze, Zf, Zg, Zh] at h2
      refine w_skip (sq_n (?_))
      refine w_if rfl (fun h3 => ?_) (fun h3 => ?_)
      · skip
        try simp only [Za, Zb, Zc, Zd, Ze, Zf, Zg, Zh] at h3
        refine w_seq (w_region (?_))
        refine o_ev (ev_fieldAddr rfl) rfl ?_
        refine o_ev (ev_load rfl) rfl ?_
        refine o_ev (ev_not rfl) rfl ?_
        refine o_split (ev_move rfl) rfl (fun h4 => ?_) (fun h4 => ?_)
        · skip
          try simp only [Za, Zb, Zc, Zd, Ze, Zf, Zg, Zh] at h4
          refine o_on_ev rfl rfl rfl (ev_fieldAddr rfl) ?_
          refine o_on_ev rfl rfl rfl (ev_load rfl) ?_
          refine o_on_ev rfl rfl rfl (ev_not rfl) ?_
          refine o_ev (ev_pick_t rfl rfl) rfl ?_
          refine o_split (ev_move rfl) rfl (fun h5 => ?_) (fun h5 => ?_)
          · skip
            try simp only [Za, Zb, Zc, Zd, Ze, Zf, Zg, Zh] at h5
            refine o_on_ev rfl rfl rfl (ev_fieldAddr rfl) ?_
            refine o_on_ev rfl rfl rfl (ev_load rfl) ?_
            refine o_on_ev rfl rfl rfl (ev_not rfl) ?_
            refine o_ev (ev_pick_t rfl rfl) rfl ?_
            refine o_ev (ev_assign rfl) rfl ?_
            refine o_nil (sq_n (w_ret (bk_r (sq_r (?_)))))
            refine res_intro (vs := [_]) Tryz.results115 (.inr rfl) (.cons (.tmp rfl) (.nil)) ?_
            exact ⟨_, by (repeat (first | exact Ka | refine Kb ?_ | refine Kc ?_ | refine Kf ?_ | refine Kd ?_ | refine Ke ?_ | refine Kh ?_ | refine Kg rfl ?_ | refine Ki ?_ | refine Kj ?_ | refine Kk ?_ | refine Kl ?_ | refine Km ?_ | refine Kn ?_ | refine Ko ?_)), by unfold goodK; rw [if_neg (by omega), if_pos (by omega)]; simp_all [resOf], rfl⟩
          · skip
            try simp only [Za, Zb, Zc, Zd, Ze, Zf, Zg, Zh] at h5
            refine o_off rfl rfl rfl ?_
            refine o_off rfl rfl rfl ?_
            refine o_off rfl rfl rfl ?_
            refine o_ev (ev_pick_f rfl rfl) rfl ?_
            refine o_ev (ev_assign rfl) rfl ?_
            refine o_nil (sq_n (w_ret (bk_r (sq_r (?_)))))
            refine res_intro (vs := [_]) Tryz.results115 (.inr rfl) (.cons (.tmp rfl) (.nil)) ?_
            exact ⟨_, by (repeat (first | exact Ka | refine Kb ?_ | refine Kc ?_ | refine Kf ?_ | refine Kd ?_ | refine Ke ?_ | refine Kh ?_ | refine Kg rfl ?_ | refine Ki ?_ | refine Kj ?_ | refine Kk ?_ | refine Kl ?_ | refine Km ?_ | refine Kn ?_ | refine Ko ?_)), by unfold goodK; rw [if_neg (by omega), if_pos (by omega)]; simp_all [resOf], rfl⟩
        · skip
          try simp only [Za, Zb, Zc, Zd, Ze, Zf, Zg, Zh] at h4
          refine o_off rfl rfl rfl ?_
          refine o_off rfl rfl rfl ?_
          refine o_off rfl rfl rfl ?_
          refine o_ev (ev_pick_f rfl rfl) rfl ?_
          refine o_ev (ev_move rfl) rfl ?_
          refine o_off rfl rfl rfl ?_
          refine o_off rfl rfl rfl ?_
          refine o_off rfl rfl rfl ?_
          refine o_ev (ev_pick_f rfl rfl) rfl ?_
          refine o_ev (ev_assign rfl) rfl ?_
          refine o_nil (sq_n (w_ret (bk_r (sq_r (?_)))))
          refine res_intro (vs := [_]) Tryz.results115 (.inr rfl) (.cons (.tmp rfl) (.nil)) ?_
          exact ⟨_, by (repeat (first | exact Ka | refine Kb ?_ | refine Kc ?_ | refine Kf ?_ | refine Kd ?_ | refine Ke ?_ | refine Kh ?_ | refine Kg rfl ?_ | refine Ki ?_ | refine Kj ?_ | refine Kk ?_ | refine Kl ?_ | refine Km ?_ | refine Kn ?_ | refine Ko ?_)), by unfold goodK; rw [if_neg (by omega), if_pos (by omega)]; simp_all [resOf], rfl⟩
      · skip
        try simp only [Za, Zb, Zc, Zd, Ze, Zf, Zg, Zh] at h3
        refine w_skip (bk_n (sq_n (w_seq (w_region (?_)))))
        refine o_ev (ev_assign rfl) rfl ?_
        refine o_nil (sq_n (w_ret (?_)))
        refine res_intro (vs := [_]) Tryz.results115 (.inr rfl) (.cons (.tmp rfl) (.nil)) ?_
        exact ⟨_, by (repeat (first | exact Ka | refine Kb ?_ | refine Kc ?_ | refine Kf ?_ | refine Kd ?_ | refine Ke ?_ | refine Kh ?_ | refine Kg rfl ?_ | refine Ki ?_ | refine Kj ?_ | refine Kk ?_ | refine Kl ?_ | refine Km ?_ | refine Kn ?_ | refine Ko ?_)), by unfold goodK; rw [if_neg (by omega), if_neg (by omega)]; rfl, rfl⟩
    · skip
      try simp only [Za, Zb, Zc, Zd, Ze, Zf, Zg, Zh] at h2
      refine w_region (?_)
      refine o_ev (ev_eql rfl rfl) rfl ?_
      refine o_ev (ev_assign rfl) rfl ?_
      refine o_nil (sq_n (?_))
      refine w_if rfl (fun h6 => ?_) (fun h6 => ?_)
      · skip
        try simp only [Za, Zb, Zc, Zd, Ze, Zf, Zg, Zh] at h6
        refine w_seq (w_region (?_))
        refine o_ev (ev_fieldAddr rfl) rfl ?_
        refine o_ev (ev_load rfl) rfl ?_
        refine o_ev (ev_not rfl) rfl ?_
        refine o_split (ev_move rfl) rfl (fun h7 => ?_) (fun h7 => ?_)
        · skip
          try simp only [Za, Zb, Zc, Zd, Ze, Zf, Zg, Zh] at h7
          refine o_on_ev rfl rfl rfl (ev_fieldAddr rfl) ?_
          refine o_on_ev rfl rfl rfl (ev_load rfl) ?_
          refine o_on_ev rfl rfl rfl (ev_not rfl) ?_
          refine o_ev (ev_pick_t rfl rfl) rfl ?_
          refine o_split (ev_move rfl) rfl (fun h8 => ?_) (fun h8 => ?_)
          · skip
            try simp only [Za, Zb, Zc, Zd, Ze, Zf, Zg, Zh] at h8
            refine o_on_ev rfl rfl rfl (ev_fieldAddr rfl) ?_
            refine o_on_ev rfl rfl rfl (ev_load rfl) ?_
            refine o_on_ev rfl rfl rfl (ev_not rfl) ?_
            refine o_ev (ev_pick_t rfl rfl) rfl ?_
            refine o_ev (ev_assign rfl) rfl ?_
            refine o_nil (sq_n (w_ret (bk_r (sq_r (?_)))))
            refine res_intro (vs := [_]) Tryz.results115 (.inr rfl) (.cons (.tmp rfl) (.nil)) ?_
            exact ⟨_, by (repeat (first | exact Ka | refine Kb ?_ | refine Kc ?_ | refine Kf ?_ | refine Kd ?_ | refine Ke ?_ | refine Kh ?_ | refine Kg rfl ?_ | refine Ki ?_ | refine Kj ?_ | refine Kk ?_ | refine Kl ?_ | refine Km ?_ | refine Kn ?_ | refine Ko ?_)), by unfold goodK; rw [if_neg (by omega), if_pos (by omega)]; simp_all [resOf], rfl⟩
          · skip
            try simp only [Za, Zb, Zc, Zd, Ze, Zf, Zg, Zh] at h8
            refine o_off rfl rfl rfl ?_
            refine o_off rfl rfl rfl ?_
            refine o_off rfl rfl rfl ?_
            refine o_ev (ev_pick_f rfl rfl) rfl ?_
            refine o_ev (ev_assign rfl) rfl ?_
            refine o_nil (sq_n (w_ret (bk_r (sq_r (?_)))))
            refine res_intro (vs := [_]) Tryz.results115 (.inr rfl) (.cons (.tmp rfl) (.nil)) ?_
            exact ⟨_, by (repeat (first | exact Ka | refine Kb ?_ | refine Kc ?_ | refine Kf ?_ | refine Kd ?_ | refine Ke ?_ | refine Kh ?_ | refine Kg rfl ?_ | refine Ki ?_ | refine Kj ?_ | refine Kk ?_ | refine Kl ?_ | refine Km ?_ | refine Kn ?_ | refine Ko ?_)), by unfold goodK; rw [if_neg (by omega), if_pos (by omega)]; simp_all [resOf], rfl⟩
        · skip
          try simp only [Za, Zb, Zc, Zd, Ze, Zf, Zg, Zh] at h7
          refine o_off rfl rfl rfl ?_
          refine o_off rfl rfl rfl ?_
          refine o_off rfl rfl rfl ?_
          refine o_ev (ev_pick_f rfl rfl) rfl ?_
          refine o_ev (ev_move rfl) rfl ?_
          refine o_off rfl rfl rfl ?_
          refine o_off rfl rfl rfl ?_
          refine o_off rfl rfl rfl ?_
          refine o_ev (ev_pick_f rfl rfl) rfl ?_
          refine o_ev (ev_assign rfl) rfl ?_
          refine o_nil (sq_n (w_ret (bk_r (sq_r (?_)))))
          refine res_intro (vs := [_]) Tryz.results115 (.inr rfl) (.cons (.tmp rfl) (.nil)) ?_
          exact ⟨_, by (repeat (first | exact Ka | refine Kb ?_ | refine Kc ?_ | refine Kf ?_ | refine Kd ?_ | refine Ke ?_ | refine Kh ?_ | refine Kg rfl ?_ | refine Ki ?_ | refine Kj ?_ | refine Kk ?_ | refine Kl ?_ | refine Km ?_ | refine Kn ?_ | refine Ko ?_)), by unfold goodK; rw [if_neg (by omega), if_pos (by omega)]; simp_all [resOf], rfl⟩
      · skip
        try simp only [Za, Zb, Zc, Zd, Ze, Zf, Zg, Zh] at h6
        refine w_skip (bk_n (sq_n (w_seq (w_region (?_)))))
        refine o_ev (ev_assign rfl) rfl ?_
        refine o_nil (sq_n (w_ret (?_)))
        refine res_intro (vs := [_]) Tryz.results115 (.inr rfl) (.cons (.tmp rfl) (.nil)) ?_
        exact ⟨_, by (repeat (first | exact Ka | refine Kb ?_ | refine Kc ?_ | refine Kf ?_ | refine Kd ?_ | refine Ke ?_ | refine Kh ?_ | refine Kg rfl ?_ | refine Ki ?_ | refine Kj ?_ | refine Kk ?_ | refine Kl ?_ | refine Km ?_ | refine Kn ?_ | refine Ko ?_)), by unfold goodK; rw [if_neg (by omega), if_neg (by omega)]; rfl, rfl⟩
end Go.Sx
