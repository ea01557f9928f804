import Derived.Test.YtcbidldebfibkaaGreatDoorW28
set_option linter.unusedVariables false
set_option linter.unusedSimpArgs false
set_option linter.unusedSectionVars false
set_option linter.unnecessarySimpa false
namespace Go.Sx
open Go Go.Proofs
set_option maxRecDepth 100000
set_option linter.unusedSimpArgs false
set_option linter.unusedVariables false

/-! ## An error's number -/
class ErrT (G : Base) : Prop where
  out : G.eT = 368
theorem comp368 : ∃ k, Tryz.prog.info? 368 = some k ∧ k.comparable = true := by
  have h : (Tryz.prog.info? 368).map (·.comparable) = some true := by kernel_rfl
  cases hk : Tryz.prog.info? 368 with
  | none => rw [hk] at h; cases h
  | some k => rw [hk] at h; exact ⟨k, rfl, by simpa using h⟩
section
variable {G : Base} {t : Tm} {H : Heap} {dst : Option Tmp} {ty : TypeId} {pos : String} {after : Array Edge} {g : Option (Nat × Bool)}
theorem ev_eql_eT {T U : TypeId} {x y : Operand} {i j : Nat} {ms : Array (String × TypeId)} [he : ErrT G] [hT : Und Tryz.prog T (.interface ms)] [hg : Glb G H] [h1 : Lt24 i] [h2 : Lt24 j] (hx : evo t x = some (G.err i)) (hy : evo t y = some (G.err j)) : Ev G Tryz.prog ⟨dst, .binOp .eql T x y U, ty, pos, after, g⟩ t H (.bool (decide (i = j))) :=
  haveI : Und Tryz.prog G.eT (.pointer 394) := ⟨by rw [he.out]; exact Tryz.underlying368⟩
  ev_eql_err (by rw [he.out]; exact comp368) (by decide) hg.inj hx hy
end
def moreE (e : Nat) : Int := if 15 ≤ e ∧ e < 24 then numE e else -1
theorem more_num : ∀ e : Fin 24, (e.val ≠ 2 ∧ e.val ≠ 3 ∧ e.val ≠ 4 ∧ e.val ≠ 5 ∧ e.val ≠ 6 ∧ e.val ≠ 7 ∧ e.val ≠ 8 ∧ e.val ≠ 1 ∧ e.val ≠ 9 ∧ e.val ≠ 10 ∧ e.val ≠ 0 ∧ e.val ≠ 11 ∧ e.val ≠ 12 ∧ e.val ≠ 13 ∧ e.val ≠ 14) → moreE e.val = numE e.val := by decide

theorem moreErr {G : Base} {H : Heap} [hg : Glb G H] [ErrT G] (e : Nat) [he : Lt24 e] : SC G Tryz.prog 41 [G.err e] H (fun v H' => v = .int .i64 (moreE e) ∧ H' = H) := by
  refine SC.out (sc_walk Tryz.func41 rfl Tryz.ntmps41 (by kernel_rfl) (Nat.le_of_ble_eq_true rfl) ?_)
  refine w_seq (w_region (?_))
  refine o_ev (ev_assign rfl) rfl ?_
  refine o_nil (sq_n (w_seq (w_seq (w_region (?_)))))
  refine o_ev (ev_move rfl) rfl ?_
  refine o_nil (sq_n (w_block (w_seq (w_region (?_)))))
  refine o_ev (ev_load rfl) rfl ?_
  refine o_ev (ev_eql_eT rfl rfl) rfl ?_
  refine o_ev (ev_assign rfl) rfl ?_
  refine o_nil (sq_n (?_))
  refine w_if rfl (fun h1 => ?_) (fun h1 => ?_)
  · skip
    try simp only [Za, Zb, Zc, Zd, Ze, Zf, Zg, Zh] at h1
    refine w_seq (w_region (?_))
    refine o_ev (ev_assign rfl) rfl ?_
    refine o_nil (sq_n (w_ret (bk_r (sq_r (?_)))))
    refine res_intro (vs := [_]) Tryz.results41 (.inr rfl) (.cons (.tmp rfl) (.nil)) ?_
    exact ⟨_, Ka, by (subst_vars; rfl), rfl⟩
  · skip
    try simp only [Za, Zb, Zc, Zd, Ze, Zf, Zg, Zh] at h1
    refine w_seq (w_region (?_))
    refine o_ev (ev_load rfl) rfl ?_
    refine o_ev (ev_eql_eT rfl rfl) rfl ?_
    refine o_ev (ev_assign rfl) rfl ?_
    refine o_nil (sq_n (?_))
    refine w_if rfl (fun h2 => ?_) (fun h2 => ?_)
    · skip
      try simp only [Za, Zb, Zc, Zd, Ze, Zf, Zg, Zh] at h2
      refine w_seq (w_region (?_))
      refine o_ev (ev_assign rfl) rfl ?_
      refine o_nil (sq_n (w_ret (bk_r (sq_r (?_)))))
      refine res_intro (vs := [_]) Tryz.results41 (.inr rfl) (.cons (.tmp rfl) (.nil)) ?_
      exact ⟨_, Ka, by (subst_vars; rfl), rfl⟩
    · skip
      try simp only [Za, Zb, Zc, Zd, Ze, Zf, Zg, Zh] at h2
      refine w_seq (w_region (?_))
      refine o_ev (ev_load rfl) rfl ?_
      refine o_ev (ev_eql_eT rfl rfl) rfl ?_
      refine o_ev (ev_assign rfl) rfl ?_
      refine o_nil (sq_n (?_))
      refine w_if rfl (fun h3 => ?_) (fun h3 => ?_)
      · skip
        try simp only [Za, Zb, Zc, Zd, Ze, Zf, Zg, Zh] at h3
        refine w_seq (w_region (?_))
        refine o_ev (ev_assign rfl) rfl ?_
        refine o_nil (sq_n (w_ret (bk_r (sq_r (?_)))))
        refine res_intro (vs := [_]) Tryz.results41 (.inr rfl) (.cons (.tmp rfl) (.nil)) ?_
        exact ⟨_, Ka, by (subst_vars; rfl), rfl⟩
      · skip
        try simp only [Za, Zb, Zc, Zd, Ze, Zf, Zg, Zh] at h3
        refine w_seq (w_region (?_))
        refine o_ev (ev_load rfl) rfl ?_
        refine o_ev (ev_eql_eT rfl rfl) rfl ?_
        refine o_ev (ev_assign rfl) rfl ?_
        refine o_nil (sq_n (?_))
        refine w_if rfl (fun h4 => ?_) (fun h4 => ?_)
        · skip
          try simp only [Za, Zb, Zc, Zd, Ze, Zf, Zg, Zh] at h4
          refine w_seq (w_region (?_))
          refine o_ev (ev_assign rfl) rfl ?_
          refine o_nil (sq_n (w_ret (bk_r (sq_r (?_)))))
          refine res_intro (vs := [_]) Tryz.results41 (.inr rfl) (.cons (.tmp rfl) (.nil)) ?_
          exact ⟨_, Ka, by (subst_vars; rfl), rfl⟩
        · skip
          try simp only [Za, Zb, Zc, Zd, Ze, Zf, Zg, Zh] at h4
          refine w_seq (w_region (?_))
          refine o_ev (ev_load rfl) rfl ?_
          refine o_ev (ev_eql_eT rfl rfl) rfl ?_
          refine o_ev (ev_assign rfl) rfl ?_
          refine o_nil (sq_n (?_))
          refine w_if rfl (fun h5 => ?_) (fun h5 => ?_)
          · skip
            try simp only [Za, Zb, Zc, Zd, Ze, Zf, Zg, Zh] at h5
            refine w_seq (w_region (?_))
            refine o_ev (ev_assign rfl) rfl ?_
            refine o_nil (sq_n (w_ret (bk_r (sq_r (?_)))))
            refine res_intro (vs := [_]) Tryz.results41 (.inr rfl) (.cons (.tmp rfl) (.nil)) ?_
            exact ⟨_, Ka, by (subst_vars; rfl), rfl⟩
          · skip
            try simp only [Za, Zb, Zc, Zd, Ze, Zf, Zg, Zh] at h5
            refine w_seq (w_region (?_))
            refine o_ev (ev_load rfl) rfl ?_
            refine o_ev (ev_eql_eT rfl rfl) rfl ?_
            refine o_ev (ev_assign rfl) rfl ?_
            refine o_nil (sq_n (?_))
            refine w_if rfl (fun h6 => ?_) (fun h6 => ?_)
            · skip
              try simp only [Za, Zb, Zc, Zd, Ze, Zf, Zg, Zh] at h6
              refine w_seq (w_region (?_))
              refine o_ev (ev_assign rfl) rfl ?_
              refine o_nil (sq_n (w_ret (bk_r (sq_r (?_)))))
              refine res_intro (vs := [_]) Tryz.results41 (.inr rfl) (.cons (.tmp rfl) (.nil)) ?_
              exact ⟨_, Ka, by (subst_vars; rfl), rfl⟩
            · skip
              try simp only [Za, Zb, Zc, Zd, Ze, Zf, Zg, Zh] at h6
              refine w_seq (w_region (?_))
              refine o_ev (ev_load rfl) rfl ?_
              refine o_ev (ev_eql_eT rfl rfl) rfl ?_
              refine o_ev (ev_assign rfl) rfl ?_
              refine o_nil (sq_n (?_))
              refine w_if rfl (fun h7 => ?_) (fun h7 => ?_)
              · skip
                try simp only [Za, Zb, Zc, Zd, Ze, Zf, Zg, Zh] at h7
                refine w_seq (w_region (?_))
                refine o_ev (ev_assign rfl) rfl ?_
                refine o_nil (sq_n (w_ret (bk_r (sq_r (?_)))))
                refine res_intro (vs := [_]) Tryz.results41 (.inr rfl) (.cons (.tmp rfl) (.nil)) ?_
                exact ⟨_, Ka, by (subst_vars; rfl), rfl⟩
              · skip
                try simp only [Za, Zb, Zc, Zd, Ze, Zf, Zg, Zh] at h7
                refine w_seq (w_region (?_))
                refine o_ev (ev_load rfl) rfl ?_
                refine o_ev (ev_eql_eT rfl rfl) rfl ?_
                refine o_ev (ev_assign rfl) rfl ?_
                refine o_nil (sq_n (?_))
                refine w_if rfl (fun h8 => ?_) (fun h8 => ?_)
                · skip
                  try simp only [Za, Zb, Zc, Zd, Ze, Zf, Zg, Zh] at h8
                  refine w_seq (w_region (?_))
                  refine o_ev (ev_assign rfl) rfl ?_
                  refine o_nil (sq_n (w_ret (bk_r (sq_r (?_)))))
                  refine res_intro (vs := [_]) Tryz.results41 (.inr rfl) (.cons (.tmp rfl) (.nil)) ?_
                  exact ⟨_, Ka, by (subst_vars; rfl), rfl⟩
                · skip
                  try simp only [Za, Zb, Zc, Zd, Ze, Zf, Zg, Zh] at h8
                  refine w_seq (w_region (?_))
                  refine o_ev (ev_load rfl) rfl ?_
                  refine o_ev (ev_eql_eT rfl rfl) rfl ?_
                  refine o_ev (ev_assign rfl) rfl ?_
                  refine o_nil (sq_n (?_))
                  refine w_if rfl (fun h9 => ?_) (fun h9 => ?_)
                  · skip
                    try simp only [Za, Zb, Zc, Zd, Ze, Zf, Zg, Zh] at h9
                    refine w_seq (w_region (?_))
                    refine o_ev (ev_assign rfl) rfl ?_
                    refine o_nil (sq_n (w_ret (bk_r (sq_r (?_)))))
                    refine res_intro (vs := [_]) Tryz.results41 (.inr rfl) (.cons (.tmp rfl) (.nil)) ?_
                    exact ⟨_, Ka, by (subst_vars; rfl), rfl⟩
                  · skip
                    try simp only [Za, Zb, Zc, Zd, Ze, Zf, Zg, Zh] at h9
                    refine w_skip (bk_n (sq_n (w_seq (w_region (?_)))))
                    refine o_ev (ev_assign rfl) rfl ?_
                    refine o_nil (sq_n (w_ret (?_)))
                    refine res_intro (vs := [_]) Tryz.results41 (.inr rfl) (.cons (.tmp rfl) (.nil)) ?_
                    exact ⟨_, Ka, by rw [moreE, if_neg (by have := he.out; omega)]; rfl, rfl⟩

theorem numErr {G : Base} {H : Heap} [hg : Glb G H] [ErrT G] (e : Nat) [he : Lt24 e] : SC G Tryz.prog 12 [G.err e] H (fun v H' => v = .int .i64 (numE e) ∧ H' = H) := by
  refine SC.out (sc_walk Tryz.func12 rfl Tryz.ntmps12 (by kernel_rfl) (Nat.le_of_ble_eq_true rfl) ?_)
  refine w_seq (w_region (?_))
  refine o_ev (ev_assign rfl) rfl ?_
  refine o_nil (sq_n (w_seq (w_seq (w_region (?_)))))
  refine o_ev (ev_move rfl) rfl ?_
  refine o_nil (sq_n (w_block (w_seq (w_region (?_)))))
  refine o_ev (ev_eql_nil_val rfl) rfl ?_
  refine o_ev (ev_assign rfl) rfl ?_
  refine o_nil (sq_n (?_))
  refine w_if rfl (fun h1 => ?_) (fun h1 => ?_)
  · skip
    skip
    cases h1 -- DONE
  · skip
    skip
    refine w_seq (w_region (?_))
    refine o_ev (ev_load rfl) rfl ?_
    refine o_ev (ev_eql_eT rfl rfl) rfl ?_
    refine o_ev (ev_assign rfl) rfl ?_
    refine o_nil (sq_n (?_))
    refine w_if rfl (fun h2 => ?_) (fun h2 => ?_)
    · skip
      try simp only [Za, Zb, Zc, Zd, Ze, Zf, Zg, Zh] at h2
      refine w_seq (w_region (?_))
      refine o_ev (ev_assign rfl) rfl ?_
      refine o_nil (sq_n (w_ret (bk_r (sq_r (?_)))))
      refine res_intro (vs := [_]) Tryz.results12 (.inr rfl) (.cons (.tmp rfl) (.nil)) ?_
      exact ⟨_, Ka, by (subst_vars; rfl), rfl⟩
    · skip
      try simp only [Za, Zb, Zc, Zd, Ze, Zf, Zg, Zh] at h2
      refine w_seq (w_region (?_))
      refine o_ev (ev_load rfl) rfl ?_
      refine o_ev (ev_eql_eT rfl rfl) rfl ?_
      refine o_ev (ev_assign rfl) rfl ?_
      refine o_nil (sq_n (?_))
      refine w_if rfl (fun h3 => ?_) (fun h3 => ?_)
      · skip
        try simp only [Za, Zb, Zc, Zd, Ze, Zf, Zg, Zh] at h3
        refine w_seq (w_region (?_))
        refine o_ev (ev_assign rfl) rfl ?_
        refine o_nil (sq_n (w_ret (bk_r (sq_r (?_)))))
        refine res_intro (vs := [_]) Tryz.results12 (.inr rfl) (.cons (.tmp rfl) (.nil)) ?_
        exact ⟨_, Ka, by (subst_vars; rfl), rfl⟩
      · skip
        try simp only [Za, Zb, Zc, Zd, Ze, Zf, Zg, Zh] at h3
        refine w_seq (w_region (?_))
        refine o_ev (ev_load rfl) rfl ?_
        refine o_ev (ev_eql_eT rfl rfl) rfl ?_
        refine o_ev (ev_assign rfl) rfl ?_
        refine o_nil (sq_n (?_))
        refine w_if rfl (fun h4 => ?_) (fun h4 => ?_)
        · skip
          try simp only [Za, Zb, Zc, Zd, Ze, Zf, Zg, Zh] at h4
          refine w_seq (w_region (?_))
          refine o_ev (ev_assign rfl) rfl ?_
          refine o_nil (sq_n (w_ret (bk_r (sq_r (?_)))))
          refine res_intro (vs := [_]) Tryz.results12 (.inr rfl) (.cons (.tmp rfl) (.nil)) ?_
          exact ⟨_, Ka, by (subst_vars; rfl), rfl⟩
        · skip
          try simp only [Za, Zb, Zc, Zd, Ze, Zf, Zg, Zh] at h4
          refine w_seq (w_region (?_))
          refine o_ev (ev_load rfl) rfl ?_
          refine o_ev (ev_eql_eT rfl rfl) rfl ?_
          refine o_ev (ev_assign rfl) rfl ?_
          refine o_nil (sq_n (?_))
          refine w_if rfl (fun h5 => ?_) (fun h5 => ?_)
          · skip
            try simp only [Za, Zb, Zc, Zd, Ze, Zf, Zg, Zh] at h5
            refine w_seq (w_region (?_))
            refine o_ev (ev_assign rfl) rfl ?_
            refine o_nil (sq_n (w_ret (bk_r (sq_r (?_)))))
            refine res_intro (vs := [_]) Tryz.results12 (.inr rfl) (.cons (.tmp rfl) (.nil)) ?_
            exact ⟨_, Ka, by (subst_vars; rfl), rfl⟩
          · skip
            try simp only [Za, Zb, Zc, Zd, Ze, Zf, Zg, Zh] at h5
            refine w_seq (w_region (?_))
            refine o_ev (ev_load rfl) rfl ?_
            refine o_ev (ev_eql_eT rfl rfl) rfl ?_
            refine o_ev (ev_assign rfl) rfl ?_
            refine o_nil (sq_n (?_))
            refine w_if rfl (fun h6 => ?_) (fun h6 => ?_)
            · skip
              try simp only [Za, Zb, Zc, Zd, Ze, Zf, Zg, Zh] at h6
              refine w_seq (w_region (?_))
              refine o_ev (ev_assign rfl) rfl ?_
              refine o_nil (sq_n (w_ret (bk_r (sq_r (?_)))))
              refine res_intro (vs := [_]) Tryz.results12 (.inr rfl) (.cons (.tmp rfl) (.nil)) ?_
              exact ⟨_, Ka, by (subst_vars; rfl), rfl⟩
            · skip
              try simp only [Za, Zb, Zc, Zd, Ze, Zf, Zg, Zh] at h6
              refine w_seq (w_region (?_))
              refine o_ev (ev_load rfl) rfl ?_
              refine o_ev (ev_eql_eT rfl rfl) rfl ?_
              refine o_ev (ev_assign rfl) rfl ?_
              refine o_nil (sq_n (?_))
              refine w_if rfl (fun h7 => ?_) (fun h7 => ?_)
              · skip
                try simp only [Za, Zb, Zc, Zd, Ze, Zf, Zg, Zh] at h7
                refine w_seq (w_region (?_))
                refine o_ev (ev_assign rfl) rfl ?_
                refine o_nil (sq_n (w_ret (bk_r (sq_r (?_)))))
                refine res_intro (vs := [_]) Tryz.results12 (.inr rfl) (.cons (.tmp rfl) (.nil)) ?_
                exact ⟨_, Ka, by (subst_vars; rfl), rfl⟩
              · skip
                try simp only [Za, Zb, Zc, Zd, Ze, Zf, Zg, Zh] at h7
                refine w_seq (w_region (?_))
                refine o_ev (ev_load rfl) rfl ?_
                refine o_ev (ev_eql_eT rfl rfl) rfl ?_
                refine o_ev (ev_assign rfl) rfl ?_
                refine o_nil (sq_n (?_))
                refine w_if rfl (fun h8 => ?_) (fun h8 => ?_)
                · skip
                  try simp only [Za, Zb, Zc, Zd, Ze, Zf, Zg, Zh] at h8
                  refine w_seq (w_region (?_))
                  refine o_ev (ev_assign rfl) rfl ?_
                  refine o_nil (sq_n (w_ret (bk_r (sq_r (?_)))))
                  refine res_intro (vs := [_]) Tryz.results12 (.inr rfl) (.cons (.tmp rfl) (.nil)) ?_
                  exact ⟨_, Ka, by (subst_vars; rfl), rfl⟩
                · skip
                  try simp only [Za, Zb, Zc, Zd, Ze, Zf, Zg, Zh] at h8
                  refine w_seq (w_region (?_))
                  refine o_ev (ev_load rfl) rfl ?_
                  refine o_ev (ev_eql_eT rfl rfl) rfl ?_
                  refine o_ev (ev_assign rfl) rfl ?_
                  refine o_nil (sq_n (?_))
                  refine w_if rfl (fun h9 => ?_) (fun h9 => ?_)
                  · skip
                    try simp only [Za, Zb, Zc, Zd, Ze, Zf, Zg, Zh] at h9
                    refine w_seq (w_region (?_))
                    refine o_ev (ev_assign rfl) rfl ?_
                    refine o_nil (sq_n (w_ret (bk_r (sq_r (?_)))))
                    refine res_intro (vs := [_]) Tryz.results12 (.inr rfl) (.cons (.tmp rfl) (.nil)) ?_
                    exact ⟨_, Ka, by (subst_vars; rfl), rfl⟩
                  · skip
                    try simp only [Za, Zb, Zc, Zd, Ze, Zf, Zg, Zh] at h9
                    refine w_seq (w_region (?_))
                    refine o_ev (ev_load rfl) rfl ?_
                    refine o_ev (ev_eql_eT rfl rfl) rfl ?_
                    refine o_ev (ev_assign rfl) rfl ?_
                    refine o_nil (sq_n (?_))
                    refine w_if rfl (fun h10 => ?_) (fun h10 => ?_)
                    · skip
                      try simp only [Za, Zb, Zc, Zd, Ze, Zf, Zg, Zh] at h10
                      refine w_seq (w_region (?_))
                      refine o_ev (ev_assign rfl) rfl ?_
                      refine o_nil (sq_n (w_ret (bk_r (sq_r (?_)))))
                      refine res_intro (vs := [_]) Tryz.results12 (.inr rfl) (.cons (.tmp rfl) (.nil)) ?_
                      exact ⟨_, Ka, by (subst_vars; rfl), rfl⟩
                    · skip
                      try simp only [Za, Zb, Zc, Zd, Ze, Zf, Zg, Zh] at h10
                      refine w_seq (w_region (?_))
                      refine o_ev (ev_load rfl) rfl ?_
                      refine o_ev (ev_eql_eT rfl rfl) rfl ?_
                      refine o_ev (ev_assign rfl) rfl ?_
                      refine o_nil (sq_n (?_))
                      refine w_if rfl (fun h11 => ?_) (fun h11 => ?_)
                      · skip
                        try simp only [Za, Zb, Zc, Zd, Ze, Zf, Zg, Zh] at h11
                        refine w_seq (w_region (?_))
                        refine o_ev (ev_assign rfl) rfl ?_
                        refine o_nil (sq_n (w_ret (bk_r (sq_r (?_)))))
                        refine res_intro (vs := [_]) Tryz.results12 (.inr rfl) (.cons (.tmp rfl) (.nil)) ?_
                        exact ⟨_, Ka, by (subst_vars; rfl), rfl⟩
                      · skip
                        try simp only [Za, Zb, Zc, Zd, Ze, Zf, Zg, Zh] at h11
                        refine w_seq (w_region (?_))
                        refine o_ev (ev_load rfl) rfl ?_
                        refine o_ev (ev_eql_eT rfl rfl) rfl ?_
                        refine o_ev (ev_assign rfl) rfl ?_
                        refine o_nil (sq_n (?_))
                        refine w_if rfl (fun h12 => ?_) (fun h12 => ?_)
                        · skip
                          try simp only [Za, Zb, Zc, Zd, Ze, Zf, Zg, Zh] at h12
                          refine w_seq (w_region (?_))
                          refine o_ev (ev_assign rfl) rfl ?_
                          refine o_nil (sq_n (w_ret (bk_r (sq_r (?_)))))
                          refine res_intro (vs := [_]) Tryz.results12 (.inr rfl) (.cons (.tmp rfl) (.nil)) ?_
                          exact ⟨_, Ka, by (subst_vars; rfl), rfl⟩
                        · skip
                          try simp only [Za, Zb, Zc, Zd, Ze, Zf, Zg, Zh] at h12
                          refine w_seq (w_region (?_))
                          refine o_ev (ev_load rfl) rfl ?_
                          refine o_ev (ev_eql_eT rfl rfl) rfl ?_
                          refine o_ev (ev_assign rfl) rfl ?_
                          refine o_nil (sq_n (?_))
                          refine w_if rfl (fun h13 => ?_) (fun h13 => ?_)
                          · skip
                            try simp only [Za, Zb, Zc, Zd, Ze, Zf, Zg, Zh] at h13
                            refine w_seq (w_region (?_))
                            refine o_ev (ev_assign rfl) rfl ?_
                            refine o_nil (sq_n (w_ret (bk_r (sq_r (?_)))))
                            refine res_intro (vs := [_]) Tryz.results12 (.inr rfl) (.cons (.tmp rfl) (.nil)) ?_
                            exact ⟨_, Ka, by (subst_vars; rfl), rfl⟩
                          · skip
                            try simp only [Za, Zb, Zc, Zd, Ze, Zf, Zg, Zh] at h13
                            refine w_seq (w_region (?_))
                            refine o_ev (ev_load rfl) rfl ?_
                            refine o_ev (ev_eql_eT rfl rfl) rfl ?_
                            refine o_ev (ev_assign rfl) rfl ?_
                            refine o_nil (sq_n (?_))
                            refine w_if rfl (fun h14 => ?_) (fun h14 => ?_)
                            · skip
                              try simp only [Za, Zb, Zc, Zd, Ze, Zf, Zg, Zh] at h14
                              refine w_seq (w_region (?_))
                              refine o_ev (ev_assign rfl) rfl ?_
                              refine o_nil (sq_n (w_ret (bk_r (sq_r (?_)))))
                              refine res_intro (vs := [_]) Tryz.results12 (.inr rfl) (.cons (.tmp rfl) (.nil)) ?_
                              exact ⟨_, Ka, by (subst_vars; rfl), rfl⟩
                            · skip
                              try simp only [Za, Zb, Zc, Zd, Ze, Zf, Zg, Zh] at h14
                              refine w_seq (w_region (?_))
                              refine o_ev (ev_load rfl) rfl ?_
                              refine o_ev (ev_eql_eT rfl rfl) rfl ?_
                              refine o_ev (ev_assign rfl) rfl ?_
                              refine o_nil (sq_n (?_))
                              refine w_if rfl (fun h15 => ?_) (fun h15 => ?_)
                              · skip
                                try simp only [Za, Zb, Zc, Zd, Ze, Zf, Zg, Zh] at h15
                                refine w_seq (w_region (?_))
                                refine o_ev (ev_assign rfl) rfl ?_
                                refine o_nil (sq_n (w_ret (bk_r (sq_r (?_)))))
                                refine res_intro (vs := [_]) Tryz.results12 (.inr rfl) (.cons (.tmp rfl) (.nil)) ?_
                                exact ⟨_, Ka, by (subst_vars; rfl), rfl⟩
                              · skip
                                try simp only [Za, Zb, Zc, Zd, Ze, Zf, Zg, Zh] at h15
                                refine w_seq (w_region (?_))
                                refine o_ev (ev_load rfl) rfl ?_
                                refine o_ev (ev_eql_eT rfl rfl) rfl ?_
                                refine o_ev (ev_assign rfl) rfl ?_
                                refine o_nil (sq_n (?_))
                                refine w_if rfl (fun h16 => ?_) (fun h16 => ?_)
                                · skip
                                  try simp only [Za, Zb, Zc, Zd, Ze, Zf, Zg, Zh] at h16
                                  refine w_seq (w_region (?_))
                                  refine o_ev (ev_assign rfl) rfl ?_
                                  refine o_nil (sq_n (w_ret (bk_r (sq_r (?_)))))
                                  refine res_intro (vs := [_]) Tryz.results12 (.inr rfl) (.cons (.tmp rfl) (.nil)) ?_
                                  exact ⟨_, Ka, by (subst_vars; rfl), rfl⟩
                                · skip
                                  try simp only [Za, Zb, Zc, Zd, Ze, Zf, Zg, Zh] at h16
                                  refine w_skip (bk_n (sq_n (w_seq (w_region (?_)))))
                                  refine o_ev (ev_move rfl) rfl ?_
                                  refine o_st (st_call (vs := [_]) rfl (moreErr e)) rfl ?_
                                  rintro _ _ ⟨rfl, rfl⟩
                                  refine o_ev (ev_assign rfl) rfl ?_
                                  refine o_nil (sq_n (w_ret (?_)))
                                  refine res_intro (vs := [_]) Tryz.results12 (.inr rfl) (.cons (.tmp rfl) (.nil)) ?_
                                  exact ⟨_, Ka, by rw [more_num ⟨e, he.out⟩ (by simp only; omega)]; rfl, rfl⟩

theorem numNil {G : Base} {H : Heap} [hg : Glb G H] : SC G Tryz.prog 12 [.nilIface] H (fun v H' => v = .int .i64 0 ∧ H' = H) := by
  refine SC.out (sc_walk Tryz.func12 rfl Tryz.ntmps12 (by kernel_rfl) (Nat.le_of_ble_eq_true rfl) ?_)
  refine w_seq (w_region (?_))
  refine o_ev (ev_assign rfl) rfl ?_
  refine o_nil (sq_n (w_seq (w_seq (w_region (?_)))))
  refine o_ev (ev_move rfl) rfl ?_
  refine o_nil (sq_n (w_block (w_seq (w_region (?_)))))
  refine o_ev (ev_eql_nil_nil rfl) rfl ?_
  refine o_ev (ev_assign rfl) rfl ?_
  refine o_nil (sq_n (?_))
  refine w_if rfl (fun h1 => ?_) (fun h1 => ?_)
  · skip
    skip
    refine w_seq (w_region (?_))
    refine o_ev (ev_assign rfl) rfl ?_
    refine o_nil (sq_n (w_ret (bk_r (sq_r (?_)))))
    refine res_intro (vs := [_]) Tryz.results12 (.inr rfl) (.cons (.tmp rfl) (.nil)) ?_
    exact ⟨_, by (repeat (first | exact Ka | refine Kb ?_ | refine Kc ?_ | refine Kf ?_ | refine Kd ?_ | refine Ke ?_ | refine Kh ?_ | refine Kg rfl ?_ | refine Ki ?_ | refine Kj ?_ | refine Kk ?_ | refine Kl ?_ | refine Km ?_ | refine Kn ?_ | refine Ko ?_)), rfl, rfl⟩
  · skip
    skip
    cases h1 -- DONE

/-! ## The laws' own indexes -/
def smallF : List FV := [⟨⟨#[116]⟩, 1, false, false, false⟩]
def smallPs : Pcs := [([120], [2, 5])]
theorem PsIn.one {H : Heap} {a b : SV} {x : List Nat} {y : List Int} (ha : Sl H a eB x) (hb : Sl H b eI y) : PsIn H [(a, b)] [(x, y)] :=
  (PsIn.nil (F := H)).snoc a b x y (fun _ _ h => h) (fun _ _ h => h) ha hb
theorem PsIn.ext {F F' : Heap} {l : List (SV × SV)} {ps : Pcs} (h : PsIn F l ps) (hF : ∀ (s : SV) (b : List Nat), Sl F s eB b → Sl F' s eB b) (hF2 : ∀ (s : SV) (b : List Int), Sl F s eI b → Sl F' s eI b) : PsIn F' l ps :=
  ⟨h.1, fun i p q hp hq => ⟨hF _ _ (h.2 i p q hp hq).1, hF2 _ _ (h.2 i p q hp hq).2⟩⟩

theorem smallIx {G : Base} {H : Heap} : SC G Tryz.prog 30 [] H (fun v H' => ∃ lp F, ∃ sf sp : SV, PsIn F lp smallPs ∧ v = .agg [sf.val, .int .i64 300, sp.val].toArray ∧ H' = Row sf eF smallF :: Row sp eP lp :: Star F :: H) := by
  refine SC.out (sc_walk Tryz.func30 rfl Tryz.ntmps30 (by kernel_rfl) (Nat.le_of_ble_eq_true rfl) ?_)
  refine w_seq (w_region (?_))
  refine o_st (st_alloc) rfl ?_
  rintro _ _ ⟨b1, rfl, rfl⟩
  refine o_nil (sq_n (w_seq (w_region (?_))))
  refine o_ev (ev_build (vs := [(0, _), (1, _)]) rfl) rfl ?_
  refine o_st (st_build1 eF rfl rfl) rfl ?_
  rintro _ _ ⟨s1, rfl, rfl⟩
  refine o_ev (ev_build (vs := [(0, _)]) rfl) rfl ?_
  refine o_st (st_build1 eB rfl rfl) rfl ?_
  rintro _ _ ⟨s2, rfl, rfl⟩
  refine o_st (st_bytes rfl (by simp)) rfl ?_
  rintro _ _ ⟨rfl, rfl⟩
  refine o_st (st_build2 eI rfl rfl rfl) rfl ?_
  rintro _ _ ⟨s3, rfl, rfl⟩
  refine o_ev (ev_build (vs := [(0, _), (1, _)]) rfl) rfl ?_
  refine o_st (st_build1 eP rfl rfl) rfl ?_
  rintro _ _ ⟨s4, rfl, rfl⟩
  refine o_ev (ev_build (vs := [(0, _), (1, _), (2, _)]) rfl) rfl ?_
  refine o_st (st_store rfl rfl rfl) rfl ?_
  rintro _ _ ⟨rfl, rfl⟩
  refine o_nil (sq_n (w_ret (?_)))
  refine res_intro (vs := [_]) Tryz.results30 (.inr rfl) (.cons ((.cell rfl rfl)) (.nil)) ?_
  refine ⟨Row s1 eF smallF :: Row s4 eP [(s2, s3)] :: Star [Row s2 eB [120], Row s3 eI [2, 5]] :: H, ?_, _, _, s1, s4, PsIn.one inferInstance inferInstance, rfl, rfl⟩
  refine Kc (Kc (HSub.starPut (HSub.starPut (Kk ?_))))
  (repeat (first | exact Ka | refine Kb ?_ | refine Kc ?_ | refine Kf ?_ | refine Kd ?_ | refine Ke ?_ | refine Kh ?_ | refine Kg rfl ?_ | refine Ki ?_ | refine Kj ?_ | refine Kk ?_ | refine Kl ?_ | refine Km ?_ | refine Kn ?_ | refine Ko ?_))

theorem copiedIx {G : Base} {H : Heap} {sf sp : SV} {fs : List FV} {lp : List (SV × SV)} {ps : Pcs} {n : Int} [Sl H sf eF fs] [hsp : Sl H sp eP lp] (hP : PsIn H lp ps) (hn : fs.length ≤ 1000000000) (hpl : ps.length ≤ 1000000000) (hk : OkPs ps) :
    SC G Tryz.prog 10 [.agg [sf.val, .int .i64 n, sp.val].toArray] H (fun v H' => ∃ lp' F, ∃ sf' sp' : SV, PsIn F lp' ps ∧ v = .agg [sf'.val, .int .i64 n, sp'.val].toArray ∧ H' = Row sf' eF fs :: Row sp' eP lp' :: Star F :: H) := by
  obtain ⟨hlen, hin⟩ := hP
  refine SC.out (sc_walk Tryz.func10 rfl Tryz.ntmps10 (by kernel_rfl) (Nat.le_of_ble_eq_true rfl) ?_)
  refine w_seq (w_region (?_))
  refine o_st (st_box rfl) rfl ?_
  rintro _ _ ⟨b1, rfl, rfl⟩
  refine o_st (st_alloc) rfl ?_
  rintro _ _ ⟨b2, rfl, rfl⟩
  refine o_nil (sq_n (w_seq (?_)))
  refine w_draw Tryz_mixed (fun i => [2, 6, 9, 10].contains i) (fun k H => (k = 1 → HasV H b1 [sf.val, .int .i64 n, sp.val]) ∧ (k = 5 → HasV H b1 [sf.val, .int .i64 n, sp.val])) ?_
  refine an_first 0 rfl rfl (by kernel_rfl) rfl (Qv.of_ev (fun H hH => ev_fieldAddr rfl)) ?_
  refine an_first 1 rfl rfl (by kernel_rfl) rfl (Qv.of_ev (fun H hH => by have hN := hH.1 rfl; exact ev_load rfl)) ?_
  refine an_first 3 rfl rfl (by kernel_rfl) rfl (Qv.of_ev (fun H hH => ev_fieldAddr rfl)) ?_
  refine an_first 4 rfl rfl (by kernel_rfl) rfl (Qv.of_ev (fun H hH => ev_fieldAddr rfl)) ?_
  refine an_first 5 rfl rfl (by kernel_rfl) rfl (Qv.of_ev (fun H hH => by have hN := hH.2 rfl; exact ev_load rfl)) ?_
  refine an_two 2 9 rfl rfl (by kernel_rfl) rfl rfl (fun k hk => ⟨fun hi => by subst hi; infer_instance, fun hi => by subst hi; infer_instance⟩) (st_build0 eF rfl) (st_alloc) ?_ ?_
  · rintro _ _ ⟨s0, rfl, rfl⟩
    refine an_two 6 9 rfl rfl (by kernel_rfl) rfl rfl (fun k hk => ⟨fun hi => by subst hi; infer_instance, fun hi => by subst hi; infer_instance⟩) (st_append rfl rfl rfl rfl (by simp only [List.length_nil]; omega) (by simp only [List.length_nil]; omega)) (st_alloc) ?_ ?_
    · rintro _ _ ⟨s1, rfl, rfl⟩
      refine an_first 7 rfl rfl (by kernel_rfl) rfl (Qv.of_ev (fun H hH => ev_build (vs := [(0, _)]) rfl)) ?_
      refine an_first 8 rfl rfl (by kernel_rfl) rfl (Qv.of_ev (fun H hH => ev_build (vs := [(1, _), (0, _)]) rfl)) ?_
      refine an_step 9 rfl (by kernel_rfl) rfl (fun k hk => ⟨fun hi => by subst hi; infer_instance, fun hi => absurd hk (by subst hi; exact not_live (by kernel_rfl))⟩) (st_alloc) ?_
      rintro _ _ ⟨b3, rfl, rfl⟩
      refine an_step 10 rfl (by kernel_rfl) rfl (fun k hk => ⟨fun hi => by subst hi; infer_instance, fun hi => absurd hk (by subst hi; exact not_live (by kernel_rfl))⟩) (st_store rfl rfl rfl) ?_
      rintro _ _ ⟨rfl, rfl⟩
      refine an_nil (by kernel_rfl) (fun k hk => ⟨fun hi => absurd hk (by subst hi; exact not_live (by kernel_rfl)), fun hi => absurd hk (by subst hi; exact not_live (by kernel_rfl))⟩) (sq_n (w_seq (w_seq (w_region (?_)))))
      rw [List.nil_append]
      refine o_ev (ev_fieldAddr rfl) rfl ?_
      refine o_ev (ev_load rfl) rfl ?_
      refine o_ev (ev_len1 rfl) rfl ?_
      refine o_ev (ev_move rfl) rfl ?_
      refine o_nil (sq_n (w_block (?_)))
      refine w_loop (SV × Nat × List (SV × SV) × Heap) (fun y => y.2.1 ≤ ps.length ∧ PsIn y.2.2.2 y.2.2.1 (ps.take y.2.1)) (fun y => [(2, .pointer (some ⟨b2, 0, none⟩)), (3, .pointer (some ⟨b3, 0, none⟩)), (16, sp.val), (17, .int .i64 ((ps.length : Nat) : Int)), (18, .int .i64 ((y.2.1 : Nat) : Int))]) (fun y => Vr b3 [s1.val, .int .i64 n, y.1.val] :: Row s1 eF fs :: Row y.1 eP y.2.2.1 :: Star y.2.2.2 :: Vr b2 [SV.nil.val, .int .i64 0, SV.nil.val] :: H) (fun y => ps.length - y.2.1) ((SV.nil, 0, [], [])) ?_ ?_ ?_ ?_
      · (try dsimp only)
        exact ⟨Nat.zero_le _, PsIn.nil⟩
      · rw [hlen]
        repeat (first | exact Sub.nil | refine Sub.cons rfl ?_)
      · (try dsimp only)
        (repeat (first | exact Ka | refine Kb ?_ | refine Kc ?_ | refine Kf ?_ | refine Kd ?_ | refine Ke ?_ | refine Kh ?_ | refine Kg rfl ?_ | refine Ki ?_ | refine Kj ?_ | refine Kk ?_ | refine Kl ?_ | refine Km ?_ | refine Kn ?_ | refine Ko ?_))
      · rintro ⟨s, i, l, F⟩ ⟨hi, hPs⟩
        (try dsimp only at *)
        refine w_seq (w_region (?_))
        refine o_ev (ev_lss rfl rfl) rfl ?_
        refine o_nil (sq_n (w_seq (?_)))
        refine w_if rfl (fun h1 => ?_) (fun h1 => ?_)
        · skip
          try simp only [Za, Zb, Zc, Zd, Ze, Zf, Zg, Zh] at h1
          obtain ⟨p, hp⟩ : ∃ p, lp[i]? = some p := ⟨_, List.getElem?_eq_getElem (by omega)⟩
          obtain ⟨q, hq⟩ : ∃ q, ps[i]? = some q := ⟨_, List.getElem?_eq_getElem (by omega)⟩
          obtain ⟨hS1, hS2⟩ := hin i p q hp hq
          obtain ⟨k1, k2, k3, k4⟩ := hk q (List.mem_of_getElem? hq)
          have hll : l.length = i := by rw [hPs.1, List.length_take]; omega
          refine w_skip (sq_n (w_seq (w_block (w_seq (w_region (?_))))))
          refine o_ev (ev_indexAddr rfl rfl _ rfl (by omega)) rfl ?_
          refine o_ev (ev_loadS_el rfl (by rfl) (by rfl) _ (by first | assumption | rfl | exact List.getElem?_eq_getElem (by omega))) rfl ?_
          refine o_st (st_alloc) rfl ?_
          rintro _ _ ⟨b5, rfl, rfl⟩
          refine o_st (st_store rfl rfl rfl) rfl ?_
          rintro _ _ ⟨rfl, rfl⟩
          refine o_nil (sq_n (?_))
          refine w_draw Tryz_mixed (fun i => [2, 5, 6, 9, 11, 12, 14].contains i) (fun k H => (k = 1 → HasV H b3 [s1.val, .int .i64 n, s.val]) ∧ (k = 4 → HasV H b5 [p.1.val, p.2.val]) ∧ (k = 8 → HasV H b5 [p.1.val, p.2.val])) ?_
          refine an_first 0 rfl rfl (by kernel_rfl) rfl (Qv.of_ev (fun H hH => ev_fieldAddr rfl)) ?_
          refine an_first 1 rfl rfl (by kernel_rfl) rfl (Qv.of_ev (fun H hH => by have hN := hH.1 rfl; exact ev_load rfl)) ?_
          refine an_first 3 rfl rfl (by kernel_rfl) rfl (Qv.of_ev (fun H hH => ev_fieldAddr rfl)) ?_
          refine an_first 4 rfl rfl (by kernel_rfl) rfl (Qv.of_ev (fun H hH => by have hN := hH.2.1 rfl; exact ev_load rfl)) ?_
          refine an_first 7 rfl rfl (by kernel_rfl) rfl (Qv.of_ev (fun H hH => ev_fieldAddr rfl)) ?_
          refine an_first 8 rfl rfl (by kernel_rfl) rfl (Qv.of_ev (fun H hH => by have hN := hH.2.2 rfl; exact ev_load rfl)) ?_
          refine an_two 2 6 rfl rfl (by kernel_rfl) rfl rfl (fun k hk => ⟨fun hi => by subst hi; infer_instance, fun hi => by subst hi; infer_instance, fun hi => by subst hi; infer_instance⟩) (st_build0 eB rfl) (st_build0 eI rfl) ?_ ?_
          · rintro _ _ ⟨s2, rfl, rfl⟩
            refine an_two 5 6 rfl rfl (by kernel_rfl) rfl rfl (fun k hk => ⟨fun hi => by subst hi; infer_instance, fun hi => by subst hi; infer_instance, fun hi => by subst hi; infer_instance⟩) (st_append rfl rfl rfl rfl (by simp only [List.length_nil]; omega) (by simp only [List.length_nil]; omega)) (st_build0 eI rfl) ?_ ?_
            · rintro _ _ ⟨s3, rfl, rfl⟩
              refine an_step 6 rfl (by kernel_rfl) rfl (fun k hk => ⟨fun hi => by subst hi; infer_instance, fun hi => absurd hk (by subst hi; exact not_live (by kernel_rfl)), fun hi => by subst hi; infer_instance⟩) (st_build0 eI rfl) ?_
              rintro _ _ ⟨s4, rfl, rfl⟩
              refine an_step 9 rfl (by kernel_rfl) rfl (fun k hk => ⟨fun hi => by subst hi; infer_instance, fun hi => absurd hk (by subst hi; exact not_live (by kernel_rfl)), fun hi => by subst hi; infer_instance⟩) (st_append rfl rfl rfl rfl (by simp only [List.length_nil]; omega) (by simp only [List.length_nil]; omega)) ?_
              rintro _ _ ⟨s5, rfl, rfl⟩
              refine an_first 10 rfl rfl (by kernel_rfl) rfl (Qv.of_ev (fun H hH => ev_build (vs := [(0, _), (1, _)]) rfl)) ?_
              refine an_step 11 rfl (by kernel_rfl) rfl (fun k hk => ⟨fun hi => by subst hi; infer_instance, fun hi => absurd hk (by subst hi; exact not_live (by kernel_rfl)), fun hi => absurd hk (by subst hi; exact not_live (by kernel_rfl))⟩) (st_build1 eP rfl rfl) ?_
              rintro _ _ ⟨s6, rfl, rfl⟩
              refine an_step 12 rfl (by kernel_rfl) rfl (fun k hk => ⟨fun hi => by subst hi; infer_instance, fun hi => absurd hk (by subst hi; exact not_live (by kernel_rfl)), fun hi => absurd hk (by subst hi; exact not_live (by kernel_rfl))⟩) (st_append rfl rfl rfl rfl (by simp only [List.length_cons, List.length_nil]; omega) (by simp only [List.length_cons, List.length_nil]; omega)) ?_
              rintro _ _ ⟨s7, rfl, rfl⟩
              refine an_first 13 rfl rfl (by kernel_rfl) rfl (Qv.of_ev (fun H hH => ev_fieldAddr rfl)) ?_
              refine an_step 14 rfl (by kernel_rfl) rfl (fun k hk => ⟨fun hi => absurd hk (by subst hi; exact not_live (by kernel_rfl)), fun hi => absurd hk (by subst hi; exact not_live (by kernel_rfl)), fun hi => absurd hk (by subst hi; exact not_live (by kernel_rfl))⟩) (st_store rfl rfl rfl) ?_
              rintro _ _ ⟨rfl, rfl⟩
              refine an_nil (by kernel_rfl) (fun k hk => ⟨fun hi => absurd hk (by subst hi; exact not_live (by kernel_rfl)), fun hi => absurd hk (by subst hi; exact not_live (by kernel_rfl)), fun hi => absurd hk (by subst hi; exact not_live (by kernel_rfl))⟩) (bk_n (sq_n (w_region (?_))))
              refine o_ev (ev_add rfl rfl (by omega)) rfl ?_
              refine o_ev (ev_move rfl) rfl ?_
              refine o_nil (?_)
              skip
              refine lq_n ((s7, i + 1, l ++ [(s3, s5)], Row s3 eB ([] ++ q.1) :: Row s5 eI ([] ++ q.2) :: F)) ?_ ?_ ?_ ?_
              · (try dsimp only)
                refine ⟨by omega, ?_⟩
                rw [take_succ_get hq]
                exact hPs.snoc (F' := Row s3 eB ([] ++ q.1) :: Row s5 eI ([] ++ q.2) :: F) s3 s5 q.1 q.2 (fun _ _ h => inferInstance) (fun _ _ h => inferInstance) (show Sl (Row s3 eB ([] ++ q.1) :: Row s5 eI ([] ++ q.2) :: F) s3 eB ([] ++ q.1) from inferInstance) (show Sl (Row s3 eB ([] ++ q.1) :: Row s5 eI ([] ++ q.2) :: F) s5 eI ([] ++ q.2) from inferInstance)
              · (try dsimp only)
                omega
              · repeat (first | exact Sub.nil | refine Sub.cons rfl ?_)
              · (try dsimp only)
                refine Kb (Kc (Kc (HSub.starPut (HSub.starPut ?_))))
                (repeat (first | exact Ka | refine Kb ?_ | refine Kc ?_ | refine Kf ?_ | refine Kd ?_ | refine Ke ?_ | refine Kh ?_ | refine Kg rfl ?_ | refine Ki ?_ | refine Kj ?_ | refine Kk ?_ | refine Kl ?_ | refine Km ?_ | refine Kn ?_ | refine Ko ?_))
            · rintro _ _ ⟨s4, rfl, rfl⟩
              refine an_step 5 rfl (by kernel_rfl) rfl (fun k hk => ⟨fun hi => by subst hi; infer_instance, fun hi => by subst hi; infer_instance, fun hi => by subst hi; infer_instance⟩) (st_append rfl rfl rfl rfl (by simp only [List.length_nil]; omega) (by simp only [List.length_nil]; omega)) ?_
              rintro _ _ ⟨s3, rfl, rfl⟩
              refine an_step 9 rfl (by kernel_rfl) rfl (fun k hk => ⟨fun hi => by subst hi; infer_instance, fun hi => absurd hk (by subst hi; exact not_live (by kernel_rfl)), fun hi => by subst hi; infer_instance⟩) (st_append rfl rfl rfl rfl (by simp only [List.length_nil]; omega) (by simp only [List.length_nil]; omega)) ?_
              rintro _ _ ⟨s5, rfl, rfl⟩
              refine an_first 10 rfl rfl (by kernel_rfl) rfl (Qv.of_ev (fun H hH => ev_build (vs := [(0, _), (1, _)]) rfl)) ?_
              refine an_step 11 rfl (by kernel_rfl) rfl (fun k hk => ⟨fun hi => by subst hi; infer_instance, fun hi => absurd hk (by subst hi; exact not_live (by kernel_rfl)), fun hi => absurd hk (by subst hi; exact not_live (by kernel_rfl))⟩) (st_build1 eP rfl rfl) ?_
              rintro _ _ ⟨s6, rfl, rfl⟩
              refine an_step 12 rfl (by kernel_rfl) rfl (fun k hk => ⟨fun hi => by subst hi; infer_instance, fun hi => absurd hk (by subst hi; exact not_live (by kernel_rfl)), fun hi => absurd hk (by subst hi; exact not_live (by kernel_rfl))⟩) (st_append rfl rfl rfl rfl (by simp only [List.length_cons, List.length_nil]; omega) (by simp only [List.length_cons, List.length_nil]; omega)) ?_
              rintro _ _ ⟨s7, rfl, rfl⟩
              refine an_first 13 rfl rfl (by kernel_rfl) rfl (Qv.of_ev (fun H hH => ev_fieldAddr rfl)) ?_
              refine an_step 14 rfl (by kernel_rfl) rfl (fun k hk => ⟨fun hi => absurd hk (by subst hi; exact not_live (by kernel_rfl)), fun hi => absurd hk (by subst hi; exact not_live (by kernel_rfl)), fun hi => absurd hk (by subst hi; exact not_live (by kernel_rfl))⟩) (st_store rfl rfl rfl) ?_
              rintro _ _ ⟨rfl, rfl⟩
              refine an_nil (by kernel_rfl) (fun k hk => ⟨fun hi => absurd hk (by subst hi; exact not_live (by kernel_rfl)), fun hi => absurd hk (by subst hi; exact not_live (by kernel_rfl)), fun hi => absurd hk (by subst hi; exact not_live (by kernel_rfl))⟩) (bk_n (sq_n (w_region (?_))))
              refine o_ev (ev_add rfl rfl (by omega)) rfl ?_
              refine o_ev (ev_move rfl) rfl ?_
              refine o_nil (?_)
              skip
              refine lq_n ((s7, i + 1, l ++ [(s3, s5)], Row s3 eB ([] ++ q.1) :: Row s5 eI ([] ++ q.2) :: F)) ?_ ?_ ?_ ?_
              · (try dsimp only)
                refine ⟨by omega, ?_⟩
                rw [take_succ_get hq]
                exact hPs.snoc (F' := Row s3 eB ([] ++ q.1) :: Row s5 eI ([] ++ q.2) :: F) s3 s5 q.1 q.2 (fun _ _ h => inferInstance) (fun _ _ h => inferInstance) (show Sl (Row s3 eB ([] ++ q.1) :: Row s5 eI ([] ++ q.2) :: F) s3 eB ([] ++ q.1) from inferInstance) (show Sl (Row s3 eB ([] ++ q.1) :: Row s5 eI ([] ++ q.2) :: F) s5 eI ([] ++ q.2) from inferInstance)
              · (try dsimp only)
                omega
              · repeat (first | exact Sub.nil | refine Sub.cons rfl ?_)
              · (try dsimp only)
                refine Kb (Kc (Kc (HSub.starPut (HSub.starPut ?_))))
                (repeat (first | exact Ka | refine Kb ?_ | refine Kc ?_ | refine Kf ?_ | refine Kd ?_ | refine Ke ?_ | refine Kh ?_ | refine Kg rfl ?_ | refine Ki ?_ | refine Kj ?_ | refine Kk ?_ | refine Kl ?_ | refine Km ?_ | refine Kn ?_ | refine Ko ?_))
          · rintro _ _ ⟨s4, rfl, rfl⟩
            refine an_step 2 rfl (by kernel_rfl) rfl (fun k hk => ⟨fun hi => by subst hi; infer_instance, fun hi => by subst hi; infer_instance, fun hi => by subst hi; infer_instance⟩) (st_build0 eB rfl) ?_
            rintro _ _ ⟨s2, rfl, rfl⟩
            refine an_step 5 rfl (by kernel_rfl) rfl (fun k hk => ⟨fun hi => by subst hi; infer_instance, fun hi => by subst hi; infer_instance, fun hi => by subst hi; infer_instance⟩) (st_append rfl rfl rfl rfl (by simp only [List.length_nil]; omega) (by simp only [List.length_nil]; omega)) ?_
            rintro _ _ ⟨s3, rfl, rfl⟩
            refine an_step 9 rfl (by kernel_rfl) rfl (fun k hk => ⟨fun hi => by subst hi; infer_instance, fun hi => absurd hk (by subst hi; exact not_live (by kernel_rfl)), fun hi => by subst hi; infer_instance⟩) (st_append rfl rfl rfl rfl (by simp only [List.length_nil]; omega) (by simp only [List.length_nil]; omega)) ?_
            rintro _ _ ⟨s5, rfl, rfl⟩
            refine an_first 10 rfl rfl (by kernel_rfl) rfl (Qv.of_ev (fun H hH => ev_build (vs := [(0, _), (1, _)]) rfl)) ?_
            refine an_step 11 rfl (by kernel_rfl) rfl (fun k hk => ⟨fun hi => by subst hi; infer_instance, fun hi => absurd hk (by subst hi; exact not_live (by kernel_rfl)), fun hi => absurd hk (by subst hi; exact not_live (by kernel_rfl))⟩) (st_build1 eP rfl rfl) ?_
            rintro _ _ ⟨s6, rfl, rfl⟩
            refine an_step 12 rfl (by kernel_rfl) rfl (fun k hk => ⟨fun hi => by subst hi; infer_instance, fun hi => absurd hk (by subst hi; exact not_live (by kernel_rfl)), fun hi => absurd hk (by subst hi; exact not_live (by kernel_rfl))⟩) (st_append rfl rfl rfl rfl (by simp only [List.length_cons, List.length_nil]; omega) (by simp only [List.length_cons, List.length_nil]; omega)) ?_
            rintro _ _ ⟨s7, rfl, rfl⟩
            refine an_first 13 rfl rfl (by kernel_rfl) rfl (Qv.of_ev (fun H hH => ev_fieldAddr rfl)) ?_
            refine an_step 14 rfl (by kernel_rfl) rfl (fun k hk => ⟨fun hi => absurd hk (by subst hi; exact not_live (by kernel_rfl)), fun hi => absurd hk (by subst hi; exact not_live (by kernel_rfl)), fun hi => absurd hk (by subst hi; exact not_live (by kernel_rfl))⟩) (st_store rfl rfl rfl) ?_
            rintro _ _ ⟨rfl, rfl⟩
            refine an_nil (by kernel_rfl) (fun k hk => ⟨fun hi => absurd hk (by subst hi; exact not_live (by kernel_rfl)), fun hi => absurd hk (by subst hi; exact not_live (by kernel_rfl)), fun hi => absurd hk (by subst hi; exact not_live (by kernel_rfl))⟩) (bk_n (sq_n (w_region (?_))))
            refine o_ev (ev_add rfl rfl (by omega)) rfl ?_
            refine o_ev (ev_move rfl) rfl ?_
            refine o_nil (?_)
            skip
            refine lq_n ((s7, i + 1, l ++ [(s3, s5)], Row s3 eB ([] ++ q.1) :: Row s5 eI ([] ++ q.2) :: F)) ?_ ?_ ?_ ?_
            · (try dsimp only)
              refine ⟨by omega, ?_⟩
              rw [take_succ_get hq]
              exact hPs.snoc (F' := Row s3 eB ([] ++ q.1) :: Row s5 eI ([] ++ q.2) :: F) s3 s5 q.1 q.2 (fun _ _ h => inferInstance) (fun _ _ h => inferInstance) (show Sl (Row s3 eB ([] ++ q.1) :: Row s5 eI ([] ++ q.2) :: F) s3 eB ([] ++ q.1) from inferInstance) (show Sl (Row s3 eB ([] ++ q.1) :: Row s5 eI ([] ++ q.2) :: F) s5 eI ([] ++ q.2) from inferInstance)
            · (try dsimp only)
              omega
            · repeat (first | exact Sub.nil | refine Sub.cons rfl ?_)
            · (try dsimp only)
              refine Kb (Kc (Kc (HSub.starPut (HSub.starPut ?_))))
              (repeat (first | exact Ka | refine Kb ?_ | refine Kc ?_ | refine Kf ?_ | refine Kd ?_ | refine Ke ?_ | refine Kh ?_ | refine Kg rfl ?_ | refine Ki ?_ | refine Kj ?_ | refine Kk ?_ | refine Kl ?_ | refine Km ?_ | refine Kn ?_ | refine Ko ?_))
        · skip
          try simp only [Za, Zb, Zc, Zd, Ze, Zf, Zg, Zh] at h1
          obtain rfl : i = ps.length := by omega
          rw [List.take_length] at hPs
          refine w_exit (sq_e (lq_e (bk_h (sq_n (w_seq (w_region (?_)))))))
          refine o_ev (ev_loadS rfl) rfl ?_
          refine o_st (st_store rfl rfl rfl) rfl ?_
          rintro _ _ ⟨rfl, rfl⟩
          refine o_nil (sq_n (w_ret (?_)))
          refine res_intro (vs := [_]) Tryz.results10 (.inr rfl) (.cons ((.cell rfl rfl)) (.nil)) ?_
          exact ⟨_, by (repeat (first | exact Ka | refine Kb ?_ | refine Kc ?_ | refine Kf ?_ | refine Kd ?_ | refine Ke ?_ | refine Kh ?_ | refine Kg rfl ?_ | refine Ki ?_ | refine Kj ?_ | refine Kk ?_ | refine Kl ?_ | refine Km ?_ | refine Kn ?_ | refine Ko ?_)), l, F, s1, s, hPs, rfl, rfl⟩
    · rintro _ _ ⟨b3, rfl, rfl⟩
      refine an_step 6 rfl (by kernel_rfl) rfl (fun k hk => ⟨fun hi => by subst hi; infer_instance, fun hi => by subst hi; infer_instance⟩) (st_append rfl rfl rfl rfl (by simp only [List.length_nil]; omega) (by simp only [List.length_nil]; omega)) ?_
      rintro _ _ ⟨s1, rfl, rfl⟩
      refine an_first 7 rfl rfl (by kernel_rfl) rfl (Qv.of_ev (fun H hH => ev_build (vs := [(0, _)]) rfl)) ?_
      refine an_first 8 rfl rfl (by kernel_rfl) rfl (Qv.of_ev (fun H hH => ev_build (vs := [(1, _), (0, _)]) rfl)) ?_
      refine an_step 10 rfl (by kernel_rfl) rfl (fun k hk => ⟨fun hi => by subst hi; infer_instance, fun hi => absurd hk (by subst hi; exact not_live (by kernel_rfl))⟩) (st_store rfl rfl rfl) ?_
      rintro _ _ ⟨rfl, rfl⟩
      refine an_nil (by kernel_rfl) (fun k hk => ⟨fun hi => absurd hk (by subst hi; exact not_live (by kernel_rfl)), fun hi => absurd hk (by subst hi; exact not_live (by kernel_rfl))⟩) (sq_n (w_seq (w_seq (w_region (?_)))))
      rw [List.nil_append]
      refine o_ev (ev_fieldAddr rfl) rfl ?_
      refine o_ev (ev_load rfl) rfl ?_
      refine o_ev (ev_len1 rfl) rfl ?_
      refine o_ev (ev_move rfl) rfl ?_
      refine o_nil (sq_n (w_block (?_)))
      refine w_loop (SV × Nat × List (SV × SV) × Heap) (fun y => y.2.1 ≤ ps.length ∧ PsIn y.2.2.2 y.2.2.1 (ps.take y.2.1)) (fun y => [(2, .pointer (some ⟨b2, 0, none⟩)), (3, .pointer (some ⟨b3, 0, none⟩)), (16, sp.val), (17, .int .i64 ((ps.length : Nat) : Int)), (18, .int .i64 ((y.2.1 : Nat) : Int))]) (fun y => Vr b3 [s1.val, .int .i64 n, y.1.val] :: Row s1 eF fs :: Row y.1 eP y.2.2.1 :: Star y.2.2.2 :: Vr b2 [SV.nil.val, .int .i64 0, SV.nil.val] :: H) (fun y => ps.length - y.2.1) ((SV.nil, 0, [], [])) ?_ ?_ ?_ ?_
      · (try dsimp only)
        exact ⟨Nat.zero_le _, PsIn.nil⟩
      · rw [hlen]
        repeat (first | exact Sub.nil | refine Sub.cons rfl ?_)
      · (try dsimp only)
        (repeat (first | exact Ka | refine Kb ?_ | refine Kc ?_ | refine Kf ?_ | refine Kd ?_ | refine Ke ?_ | refine Kh ?_ | refine Kg rfl ?_ | refine Ki ?_ | refine Kj ?_ | refine Kk ?_ | refine Kl ?_ | refine Km ?_ | refine Kn ?_ | refine Ko ?_))
      · rintro ⟨s, i, l, F⟩ ⟨hi, hPs⟩
        (try dsimp only at *)
        refine w_seq (w_region (?_))
        refine o_ev (ev_lss rfl rfl) rfl ?_
        refine o_nil (sq_n (w_seq (?_)))
        refine w_if rfl (fun h2 => ?_) (fun h2 => ?_)
        · skip
          try simp only [Za, Zb, Zc, Zd, Ze, Zf, Zg, Zh] at h2
          obtain ⟨p, hp⟩ : ∃ p, lp[i]? = some p := ⟨_, List.getElem?_eq_getElem (by omega)⟩
          obtain ⟨q, hq⟩ : ∃ q, ps[i]? = some q := ⟨_, List.getElem?_eq_getElem (by omega)⟩
          obtain ⟨hS1, hS2⟩ := hin i p q hp hq
          obtain ⟨k1, k2, k3, k4⟩ := hk q (List.mem_of_getElem? hq)
          have hll : l.length = i := by rw [hPs.1, List.length_take]; omega
          refine w_skip (sq_n (w_seq (w_block (w_seq (w_region (?_))))))
          refine o_ev (ev_indexAddr rfl rfl _ rfl (by omega)) rfl ?_
          refine o_ev (ev_loadS_el rfl (by rfl) (by rfl) _ (by first | assumption | rfl | exact List.getElem?_eq_getElem (by omega))) rfl ?_
          refine o_st (st_alloc) rfl ?_
          rintro _ _ ⟨b5, rfl, rfl⟩
          refine o_st (st_store rfl rfl rfl) rfl ?_
          rintro _ _ ⟨rfl, rfl⟩
          refine o_nil (sq_n (?_))
          refine w_draw Tryz_mixed (fun i => [2, 5, 6, 9, 11, 12, 14].contains i) (fun k H => (k = 1 → HasV H b3 [s1.val, .int .i64 n, s.val]) ∧ (k = 4 → HasV H b5 [p.1.val, p.2.val]) ∧ (k = 8 → HasV H b5 [p.1.val, p.2.val])) ?_
          refine an_first 0 rfl rfl (by kernel_rfl) rfl (Qv.of_ev (fun H hH => ev_fieldAddr rfl)) ?_
          refine an_first 1 rfl rfl (by kernel_rfl) rfl (Qv.of_ev (fun H hH => by have hN := hH.1 rfl; exact ev_load rfl)) ?_
          refine an_first 3 rfl rfl (by kernel_rfl) rfl (Qv.of_ev (fun H hH => ev_fieldAddr rfl)) ?_
          refine an_first 4 rfl rfl (by kernel_rfl) rfl (Qv.of_ev (fun H hH => by have hN := hH.2.1 rfl; exact ev_load rfl)) ?_
          refine an_first 7 rfl rfl (by kernel_rfl) rfl (Qv.of_ev (fun H hH => ev_fieldAddr rfl)) ?_
          refine an_first 8 rfl rfl (by kernel_rfl) rfl (Qv.of_ev (fun H hH => by have hN := hH.2.2 rfl; exact ev_load rfl)) ?_
          refine an_two 2 6 rfl rfl (by kernel_rfl) rfl rfl (fun k hk => ⟨fun hi => by subst hi; infer_instance, fun hi => by subst hi; infer_instance, fun hi => by subst hi; infer_instance⟩) (st_build0 eB rfl) (st_build0 eI rfl) ?_ ?_
          · rintro _ _ ⟨s2, rfl, rfl⟩
            refine an_two 5 6 rfl rfl (by kernel_rfl) rfl rfl (fun k hk => ⟨fun hi => by subst hi; infer_instance, fun hi => by subst hi; infer_instance, fun hi => by subst hi; infer_instance⟩) (st_append rfl rfl rfl rfl (by simp only [List.length_nil]; omega) (by simp only [List.length_nil]; omega)) (st_build0 eI rfl) ?_ ?_
            · rintro _ _ ⟨s3, rfl, rfl⟩
              refine an_step 6 rfl (by kernel_rfl) rfl (fun k hk => ⟨fun hi => by subst hi; infer_instance, fun hi => absurd hk (by subst hi; exact not_live (by kernel_rfl)), fun hi => by subst hi; infer_instance⟩) (st_build0 eI rfl) ?_
              rintro _ _ ⟨s4, rfl, rfl⟩
              refine an_step 9 rfl (by kernel_rfl) rfl (fun k hk => ⟨fun hi => by subst hi; infer_instance, fun hi => absurd hk (by subst hi; exact not_live (by kernel_rfl)), fun hi => by subst hi; infer_instance⟩) (st_append rfl rfl rfl rfl (by simp only [List.length_nil]; omega) (by simp only [List.length_nil]; omega)) ?_
              rintro _ _ ⟨s5, rfl, rfl⟩
              refine an_first 10 rfl rfl (by kernel_rfl) rfl (Qv.of_ev (fun H hH => ev_build (vs := [(0, _), (1, _)]) rfl)) ?_
              refine an_step 11 rfl (by kernel_rfl) rfl (fun k hk => ⟨fun hi => by subst hi; infer_instance, fun hi => absurd hk (by subst hi; exact not_live (by kernel_rfl)), fun hi => absurd hk (by subst hi; exact not_live (by kernel_rfl))⟩) (st_build1 eP rfl rfl) ?_
              rintro _ _ ⟨s6, rfl, rfl⟩
              refine an_step 12 rfl (by kernel_rfl) rfl (fun k hk => ⟨fun hi => by subst hi; infer_instance, fun hi => absurd hk (by subst hi; exact not_live (by kernel_rfl)), fun hi => absurd hk (by subst hi; exact not_live (by kernel_rfl))⟩) (st_append rfl rfl rfl rfl (by simp only [List.length_cons, List.length_nil]; omega) (by simp only [List.length_cons, List.length_nil]; omega)) ?_
              rintro _ _ ⟨s7, rfl, rfl⟩
              refine an_first 13 rfl rfl (by kernel_rfl) rfl (Qv.of_ev (fun H hH => ev_fieldAddr rfl)) ?_
              refine an_step 14 rfl (by kernel_rfl) rfl (fun k hk => ⟨fun hi => absurd hk (by subst hi; exact not_live (by kernel_rfl)), fun hi => absurd hk (by subst hi; exact not_live (by kernel_rfl)), fun hi => absurd hk (by subst hi; exact not_live (by kernel_rfl))⟩) (st_store rfl rfl rfl) ?_
              rintro _ _ ⟨rfl, rfl⟩
              refine an_nil (by kernel_rfl) (fun k hk => ⟨fun hi => absurd hk (by subst hi; exact not_live (by kernel_rfl)), fun hi => absurd hk (by subst hi; exact not_live (by kernel_rfl)), fun hi => absurd hk (by subst hi; exact not_live (by kernel_rfl))⟩) (bk_n (sq_n (w_region (?_))))
              refine o_ev (ev_add rfl rfl (by omega)) rfl ?_
              refine o_ev (ev_move rfl) rfl ?_
              refine o_nil (?_)
              skip
              refine lq_n ((s7, i + 1, l ++ [(s3, s5)], Row s3 eB ([] ++ q.1) :: Row s5 eI ([] ++ q.2) :: F)) ?_ ?_ ?_ ?_
              · (try dsimp only)
                refine ⟨by omega, ?_⟩
                rw [take_succ_get hq]
                exact hPs.snoc (F' := Row s3 eB ([] ++ q.1) :: Row s5 eI ([] ++ q.2) :: F) s3 s5 q.1 q.2 (fun _ _ h => inferInstance) (fun _ _ h => inferInstance) (show Sl (Row s3 eB ([] ++ q.1) :: Row s5 eI ([] ++ q.2) :: F) s3 eB ([] ++ q.1) from inferInstance) (show Sl (Row s3 eB ([] ++ q.1) :: Row s5 eI ([] ++ q.2) :: F) s5 eI ([] ++ q.2) from inferInstance)
              · (try dsimp only)
                omega
              · repeat (first | exact Sub.nil | refine Sub.cons rfl ?_)
              · (try dsimp only)
                refine Kb (Kc (Kc (HSub.starPut (HSub.starPut ?_))))
                (repeat (first | exact Ka | refine Kb ?_ | refine Kc ?_ | refine Kf ?_ | refine Kd ?_ | refine Ke ?_ | refine Kh ?_ | refine Kg rfl ?_ | refine Ki ?_ | refine Kj ?_ | refine Kk ?_ | refine Kl ?_ | refine Km ?_ | refine Kn ?_ | refine Ko ?_))
            · rintro _ _ ⟨s4, rfl, rfl⟩
              refine an_step 5 rfl (by kernel_rfl) rfl (fun k hk => ⟨fun hi => by subst hi; infer_instance, fun hi => by subst hi; infer_instance, fun hi => by subst hi; infer_instance⟩) (st_append rfl rfl rfl rfl (by simp only [List.length_nil]; omega) (by simp only [List.length_nil]; omega)) ?_
              rintro _ _ ⟨s3, rfl, rfl⟩
              refine an_step 9 rfl (by kernel_rfl) rfl (fun k hk => ⟨fun hi => by subst hi; infer_instance, fun hi => absurd hk (by subst hi; exact not_live (by kernel_rfl)), fun hi => by subst hi; infer_instance⟩) (st_append rfl rfl rfl rfl (by simp only [List.length_nil]; omega) (by simp only [List.length_nil]; omega)) ?_
              rintro _ _ ⟨s5, rfl, rfl⟩
              refine an_first 10 rfl rfl (by kernel_rfl) rfl (Qv.of_ev (fun H hH => ev_build (vs := [(0, _), (1, _)]) rfl)) ?_
              refine an_step 11 rfl (by kernel_rfl) rfl (fun k hk => ⟨fun hi => by subst hi; infer_instance, fun hi => absurd hk (by subst hi; exact not_live (by kernel_rfl)), fun hi => absurd hk (by subst hi; exact not_live (by kernel_rfl))⟩) (st_build1 eP rfl rfl) ?_
              rintro _ _ ⟨s6, rfl, rfl⟩
              refine an_step 12 rfl (by kernel_rfl) rfl (fun k hk => ⟨fun hi => by subst hi; infer_instance, fun hi => absurd hk (by subst hi; exact not_live (by kernel_rfl)), fun hi => absurd hk (by subst hi; exact not_live (by kernel_rfl))⟩) (st_append rfl rfl rfl rfl (by simp only [List.length_cons, List.length_nil]; omega) (by simp only [List.length_cons, List.length_nil]; omega)) ?_
              rintro _ _ ⟨s7, rfl, rfl⟩
              refine an_first 13 rfl rfl (by kernel_rfl) rfl (Qv.of_ev (fun H hH => ev_fieldAddr rfl)) ?_
              refine an_step 14 rfl (by kernel_rfl) rfl (fun k hk => ⟨fun hi => absurd hk (by subst hi; exact not_live (by kernel_rfl)), fun hi => absurd hk (by subst hi; exact not_live (by kernel_rfl)), fun hi => absurd hk (by subst hi; exact not_live (by kernel_rfl))⟩) (st_store rfl rfl rfl) ?_
              rintro _ _ ⟨rfl, rfl⟩
              refine an_nil (by kernel_rfl) (fun k hk => ⟨fun hi => absurd hk (by subst hi; exact not_live (by kernel_rfl)), fun hi => absurd hk (by subst hi; exact not_live (by kernel_rfl)), fun hi => absurd hk (by subst hi; exact not_live (by kernel_rfl))⟩) (bk_n (sq_n (w_region (?_))))
              refine o_ev (ev_add rfl rfl (by omega)) rfl ?_
              refine o_ev (ev_move rfl) rfl ?_
              refine o_nil (?_)
              skip
              refine lq_n ((s7, i + 1, l ++ [(s3, s5)], Row s3 eB ([] ++ q.1) :: Row s5 eI ([] ++ q.2) :: F)) ?_ ?_ ?_ ?_
              · (try dsimp only)
                refine ⟨by omega, ?_⟩
                rw [take_succ_get hq]
                exact hPs.snoc (F' := Row s3 eB ([] ++ q.1) :: Row s5 eI ([] ++ q.2) :: F) s3 s5 q.1 q.2 (fun _ _ h => inferInstance) (fun _ _ h => inferInstance) (show Sl (Row s3 eB ([] ++ q.1) :: Row s5 eI ([] ++ q.2) :: F) s3 eB ([] ++ q.1) from inferInstance) (show Sl (Row s3 eB ([] ++ q.1) :: Row s5 eI ([] ++ q.2) :: F) s5 eI ([] ++ q.2) from inferInstance)
              · (try dsimp only)
                omega
              · repeat (first | exact Sub.nil | refine Sub.cons rfl ?_)
              · (try dsimp only)
                refine Kb (Kc (Kc (HSub.starPut (HSub.starPut ?_))))
                (repeat (first | exact Ka | refine Kb ?_ | refine Kc ?_ | refine Kf ?_ | refine Kd ?_ | refine Ke ?_ | refine Kh ?_ | refine Kg rfl ?_ | refine Ki ?_ | refine Kj ?_ | refine Kk ?_ | refine Kl ?_ | refine Km ?_ | refine Kn ?_ | refine Ko ?_))
          · rintro _ _ ⟨s4, rfl, rfl⟩
            refine an_step 2 rfl (by kernel_rfl) rfl (fun k hk => ⟨fun hi => by subst hi; infer_instance, fun hi => by subst hi; infer_instance, fun hi => by subst hi; infer_instance⟩) (st_build0 eB rfl) ?_
            rintro _ _ ⟨s2, rfl, rfl⟩
            refine an_step 5 rfl (by kernel_rfl) rfl (fun k hk => ⟨fun hi => by subst hi; infer_instance, fun hi => by subst hi; infer_instance, fun hi => by subst hi; infer_instance⟩) (st_append rfl rfl rfl rfl (by simp only [List.length_nil]; omega) (by simp only [List.length_nil]; omega)) ?_
            rintro _ _ ⟨s3, rfl, rfl⟩
            refine an_step 9 rfl (by kernel_rfl) rfl (fun k hk => ⟨fun hi => by subst hi; infer_instance, fun hi => absurd hk (by subst hi; exact not_live (by kernel_rfl)), fun hi => by subst hi; infer_instance⟩) (st_append rfl rfl rfl rfl (by simp only [List.length_nil]; omega) (by simp only [List.length_nil]; omega)) ?_
            rintro _ _ ⟨s5, rfl, rfl⟩
            refine an_first 10 rfl rfl (by kernel_rfl) rfl (Qv.of_ev (fun H hH => ev_build (vs := [(0, _), (1, _)]) rfl)) ?_
            refine an_step 11 rfl (by kernel_rfl) rfl (fun k hk => ⟨fun hi => by subst hi; infer_instance, fun hi => absurd hk (by subst hi; exact not_live (by kernel_rfl)), fun hi => absurd hk (by subst hi; exact not_live (by kernel_rfl))⟩) (st_build1 eP rfl rfl) ?_
            rintro _ _ ⟨s6, rfl, rfl⟩
            refine an_step 12 rfl (by kernel_rfl) rfl (fun k hk => ⟨fun hi => by subst hi; infer_instance, fun hi => absurd hk (by subst hi; exact not_live (by kernel_rfl)), fun hi => absurd hk (by subst hi; exact not_live (by kernel_rfl))⟩) (st_append rfl rfl rfl rfl (by simp only [List.length_cons, List.length_nil]; omega) (by simp only [List.length_cons, List.length_nil]; omega)) ?_
            rintro _ _ ⟨s7, rfl, rfl⟩
            refine an_first 13 rfl rfl (by kernel_rfl) rfl (Qv.of_ev (fun H hH => ev_fieldAddr rfl)) ?_
            refine an_step 14 rfl (by kernel_rfl) rfl (fun k hk => ⟨fun hi => absurd hk (by subst hi; exact not_live (by kernel_rfl)), fun hi => absurd hk (by subst hi; exact not_live (by kernel_rfl)), fun hi => absurd hk (by subst hi; exact not_live (by kernel_rfl))⟩) (st_store rfl rfl rfl) ?_
            rintro _ _ ⟨rfl, rfl⟩
            refine an_nil (by kernel_rfl) (fun k hk => ⟨fun hi => absurd hk (by subst hi; exact not_live (by kernel_rfl)), fun hi => absurd hk (by subst hi; exact not_live (by kernel_rfl)), fun hi => absurd hk (by subst hi; exact not_live (by kernel_rfl))⟩) (bk_n (sq_n (w_region (?_))))
            refine o_ev (ev_add rfl rfl (by omega)) rfl ?_
            refine o_ev (ev_move rfl) rfl ?_
            refine o_nil (?_)
            skip
            refine lq_n ((s7, i + 1, l ++ [(s3, s5)], Row s3 eB ([] ++ q.1) :: Row s5 eI ([] ++ q.2) :: F)) ?_ ?_ ?_ ?_
            · (try dsimp only)
              refine ⟨by omega, ?_⟩
              rw [take_succ_get hq]
              exact hPs.snoc (F' := Row s3 eB ([] ++ q.1) :: Row s5 eI ([] ++ q.2) :: F) s3 s5 q.1 q.2 (fun _ _ h => inferInstance) (fun _ _ h => inferInstance) (show Sl (Row s3 eB ([] ++ q.1) :: Row s5 eI ([] ++ q.2) :: F) s3 eB ([] ++ q.1) from inferInstance) (show Sl (Row s3 eB ([] ++ q.1) :: Row s5 eI ([] ++ q.2) :: F) s5 eI ([] ++ q.2) from inferInstance)
            · (try dsimp only)
              omega
            · repeat (first | exact Sub.nil | refine Sub.cons rfl ?_)
            · (try dsimp only)
              refine Kb (Kc (Kc (HSub.starPut (HSub.starPut ?_))))
              (repeat (first | exact Ka | refine Kb ?_ | refine Kc ?_ | refine Kf ?_ | refine Kd ?_ | refine Ke ?_ | refine Kh ?_ | refine Kg rfl ?_ | refine Ki ?_ | refine Kj ?_ | refine Kk ?_ | refine Kl ?_ | refine Km ?_ | refine Kn ?_ | refine Ko ?_))
        · skip
          try simp only [Za, Zb, Zc, Zd, Ze, Zf, Zg, Zh] at h2
          obtain rfl : i = ps.length := by omega
          rw [List.take_length] at hPs
          refine w_exit (sq_e (lq_e (bk_h (sq_n (w_seq (w_region (?_)))))))
          refine o_ev (ev_loadS rfl) rfl ?_
          refine o_st (st_store rfl rfl rfl) rfl ?_
          rintro _ _ ⟨rfl, rfl⟩
          refine o_nil (sq_n (w_ret (?_)))
          refine res_intro (vs := [_]) Tryz.results10 (.inr rfl) (.cons ((.cell rfl rfl)) (.nil)) ?_
          exact ⟨_, by (repeat (first | exact Ka | refine Kb ?_ | refine Kc ?_ | refine Kf ?_ | refine Kd ?_ | refine Ke ?_ | refine Kh ?_ | refine Kg rfl ?_ | refine Ki ?_ | refine Kj ?_ | refine Kk ?_ | refine Kl ?_ | refine Km ?_ | refine Kn ?_ | refine Ko ?_)), l, F, s1, s, hPs, rfl, rfl⟩
  · rintro _ _ ⟨b3, rfl, rfl⟩
    refine an_step 2 rfl (by kernel_rfl) rfl (fun k hk => ⟨fun hi => by subst hi; infer_instance, fun hi => by subst hi; infer_instance⟩) (st_build0 eF rfl) ?_
    rintro _ _ ⟨s0, rfl, rfl⟩
    refine an_step 6 rfl (by kernel_rfl) rfl (fun k hk => ⟨fun hi => by subst hi; infer_instance, fun hi => by subst hi; infer_instance⟩) (st_append rfl rfl rfl rfl (by simp only [List.length_nil]; omega) (by simp only [List.length_nil]; omega)) ?_
    rintro _ _ ⟨s1, rfl, rfl⟩
    refine an_first 7 rfl rfl (by kernel_rfl) rfl (Qv.of_ev (fun H hH => ev_build (vs := [(0, _)]) rfl)) ?_
    refine an_first 8 rfl rfl (by kernel_rfl) rfl (Qv.of_ev (fun H hH => ev_build (vs := [(1, _), (0, _)]) rfl)) ?_
    refine an_step 10 rfl (by kernel_rfl) rfl (fun k hk => ⟨fun hi => by subst hi; infer_instance, fun hi => absurd hk (by subst hi; exact not_live (by kernel_rfl))⟩) (st_store rfl rfl rfl) ?_
    rintro _ _ ⟨rfl, rfl⟩
    refine an_nil (by kernel_rfl) (fun k hk => ⟨fun hi => absurd hk (by subst hi; exact not_live (by kernel_rfl)), fun hi => absurd hk (by subst hi; exact not_live (by kernel_rfl))⟩) (sq_n (w_seq (w_seq (w_region (?_)))))
    rw [List.nil_append]
    refine o_ev (ev_fieldAddr rfl) rfl ?_
    refine o_ev (ev_load rfl) rfl ?_
    refine o_ev (ev_len1 rfl) rfl ?_
    refine o_ev (ev_move rfl) rfl ?_
    refine o_nil (sq_n (w_block (?_)))
    refine w_loop (SV × Nat × List (SV × SV) × Heap) (fun y => y.2.1 ≤ ps.length ∧ PsIn y.2.2.2 y.2.2.1 (ps.take y.2.1)) (fun y => [(2, .pointer (some ⟨b2, 0, none⟩)), (3, .pointer (some ⟨b3, 0, none⟩)), (16, sp.val), (17, .int .i64 ((ps.length : Nat) : Int)), (18, .int .i64 ((y.2.1 : Nat) : Int))]) (fun y => Vr b3 [s1.val, .int .i64 n, y.1.val] :: Row s1 eF fs :: Row y.1 eP y.2.2.1 :: Star y.2.2.2 :: Vr b2 [SV.nil.val, .int .i64 0, SV.nil.val] :: H) (fun y => ps.length - y.2.1) ((SV.nil, 0, [], [])) ?_ ?_ ?_ ?_
    · (try dsimp only)
      exact ⟨Nat.zero_le _, PsIn.nil⟩
    · rw [hlen]
      repeat (first | exact Sub.nil | refine Sub.cons rfl ?_)
    · (try dsimp only)
      (repeat (first | exact Ka | refine Kb ?_ | refine Kc ?_ | refine Kf ?_ | refine Kd ?_ | refine Ke ?_ | refine Kh ?_ | refine Kg rfl ?_ | refine Ki ?_ | refine Kj ?_ | refine Kk ?_ | refine Kl ?_ | refine Km ?_ | refine Kn ?_ | refine Ko ?_))
    · rintro ⟨s, i, l, F⟩ ⟨hi, hPs⟩
      (try dsimp only at *)
      refine w_seq (w_region (?_))
      refine o_ev (ev_lss rfl rfl) rfl ?_
      refine o_nil (sq_n (w_seq (?_)))
      refine w_if rfl (fun h3 => ?_) (fun h3 => ?_)
      · skip
        try simp only [Za, Zb, Zc, Zd, Ze, Zf, Zg, Zh] at h3
        obtain ⟨p, hp⟩ : ∃ p, lp[i]? = some p := ⟨_, List.getElem?_eq_getElem (by omega)⟩
        obtain ⟨q, hq⟩ : ∃ q, ps[i]? = some q := ⟨_, List.getElem?_eq_getElem (by omega)⟩
        obtain ⟨hS1, hS2⟩ := hin i p q hp hq
        obtain ⟨k1, k2, k3, k4⟩ := hk q (List.mem_of_getElem? hq)
        have hll : l.length = i := by rw [hPs.1, List.length_take]; omega
        refine w_skip (sq_n (w_seq (w_block (w_seq (w_region (?_))))))
        refine o_ev (ev_indexAddr rfl rfl _ rfl (by omega)) rfl ?_
        refine o_ev (ev_loadS_el rfl (by rfl) (by rfl) _ (by first | assumption | rfl | exact List.getElem?_eq_getElem (by omega))) rfl ?_
        refine o_st (st_alloc) rfl ?_
        rintro _ _ ⟨b5, rfl, rfl⟩
        refine o_st (st_store rfl rfl rfl) rfl ?_
        rintro _ _ ⟨rfl, rfl⟩
        refine o_nil (sq_n (?_))
        refine w_draw Tryz_mixed (fun i => [2, 5, 6, 9, 11, 12, 14].contains i) (fun k H => (k = 1 → HasV H b3 [s1.val, .int .i64 n, s.val]) ∧ (k = 4 → HasV H b5 [p.1.val, p.2.val]) ∧ (k = 8 → HasV H b5 [p.1.val, p.2.val])) ?_
        refine an_first 0 rfl rfl (by kernel_rfl) rfl (Qv.of_ev (fun H hH => ev_fieldAddr rfl)) ?_
        refine an_first 1 rfl rfl (by kernel_rfl) rfl (Qv.of_ev (fun H hH => by have hN := hH.1 rfl; exact ev_load rfl)) ?_
        refine an_first 3 rfl rfl (by kernel_rfl) rfl (Qv.of_ev (fun H hH => ev_fieldAddr rfl)) ?_
        refine an_first 4 rfl rfl (by kernel_rfl) rfl (Qv.of_ev (fun H hH => by have hN := hH.2.1 rfl; exact ev_load rfl)) ?_
        refine an_first 7 rfl rfl (by kernel_rfl) rfl (Qv.of_ev (fun H hH => ev_fieldAddr rfl)) ?_
        refine an_first 8 rfl rfl (by kernel_rfl) rfl (Qv.of_ev (fun H hH => by have hN := hH.2.2 rfl; exact ev_load rfl)) ?_
        refine an_two 2 6 rfl rfl (by kernel_rfl) rfl rfl (fun k hk => ⟨fun hi => by subst hi; infer_instance, fun hi => by subst hi; infer_instance, fun hi => by subst hi; infer_instance⟩) (st_build0 eB rfl) (st_build0 eI rfl) ?_ ?_
        · rintro _ _ ⟨s2, rfl, rfl⟩
          refine an_two 5 6 rfl rfl (by kernel_rfl) rfl rfl (fun k hk => ⟨fun hi => by subst hi; infer_instance, fun hi => by subst hi; infer_instance, fun hi => by subst hi; infer_instance⟩) (st_append rfl rfl rfl rfl (by simp only [List.length_nil]; omega) (by simp only [List.length_nil]; omega)) (st_build0 eI rfl) ?_ ?_
          · rintro _ _ ⟨s3, rfl, rfl⟩
            refine an_step 6 rfl (by kernel_rfl) rfl (fun k hk => ⟨fun hi => by subst hi; infer_instance, fun hi => absurd hk (by subst hi; exact not_live (by kernel_rfl)), fun hi => by subst hi; infer_instance⟩) (st_build0 eI rfl) ?_
            rintro _ _ ⟨s4, rfl, rfl⟩
            refine an_step 9 rfl (by kernel_rfl) rfl (fun k hk => ⟨fun hi => by subst hi; infer_instance, fun hi => absurd hk (by subst hi; exact not_live (by kernel_rfl)), fun hi => by subst hi; infer_instance⟩) (st_append rfl rfl rfl rfl (by simp only [List.length_nil]; omega) (by simp only [List.length_nil]; omega)) ?_
            rintro _ _ ⟨s5, rfl, rfl⟩
            refine an_first 10 rfl rfl (by kernel_rfl) rfl (Qv.of_ev (fun H hH => ev_build (vs := [(0, _), (1, _)]) rfl)) ?_
            refine an_step 11 rfl (by kernel_rfl) rfl (fun k hk => ⟨fun hi => by subst hi; infer_instance, fun hi => absurd hk (by subst hi; exact not_live (by kernel_rfl)), fun hi => absurd hk (by subst hi; exact not_live (by kernel_rfl))⟩) (st_build1 eP rfl rfl) ?_
            rintro _ _ ⟨s6, rfl, rfl⟩
            refine an_step 12 rfl (by kernel_rfl) rfl (fun k hk => ⟨fun hi => by subst hi; infer_instance, fun hi => absurd hk (by subst hi; exact not_live (by kernel_rfl)), fun hi => absurd hk (by subst hi; exact not_live (by kernel_rfl))⟩) (st_append rfl rfl rfl rfl (by simp only [List.length_cons, List.length_nil]; omega) (by simp only [List.length_cons, List.length_nil]; omega)) ?_
            rintro _ _ ⟨s7, rfl, rfl⟩
            refine an_first 13 rfl rfl (by kernel_rfl) rfl (Qv.of_ev (fun H hH => ev_fieldAddr rfl)) ?_
            refine an_step 14 rfl (by kernel_rfl) rfl (fun k hk => ⟨fun hi => absurd hk (by subst hi; exact not_live (by kernel_rfl)), fun hi => absurd hk (by subst hi; exact not_live (by kernel_rfl)), fun hi => absurd hk (by subst hi; exact not_live (by kernel_rfl))⟩) (st_store rfl rfl rfl) ?_
            rintro _ _ ⟨rfl, rfl⟩
            refine an_nil (by kernel_rfl) (fun k hk => ⟨fun hi => absurd hk (by subst hi; exact not_live (by kernel_rfl)), fun hi => absurd hk (by subst hi; exact not_live (by kernel_rfl)), fun hi => absurd hk (by subst hi; exact not_live (by kernel_rfl))⟩) (bk_n (sq_n (w_region (?_))))
            refine o_ev (ev_add rfl rfl (by omega)) rfl ?_
            refine o_ev (ev_move rfl) rfl ?_
            refine o_nil (?_)
            skip
            refine lq_n ((s7, i + 1, l ++ [(s3, s5)], Row s3 eB ([] ++ q.1) :: Row s5 eI ([] ++ q.2) :: F)) ?_ ?_ ?_ ?_
            · (try dsimp only)
              refine ⟨by omega, ?_⟩
              rw [take_succ_get hq]
              exact hPs.snoc (F' := Row s3 eB ([] ++ q.1) :: Row s5 eI ([] ++ q.2) :: F) s3 s5 q.1 q.2 (fun _ _ h => inferInstance) (fun _ _ h => inferInstance) (show Sl (Row s3 eB ([] ++ q.1) :: Row s5 eI ([] ++ q.2) :: F) s3 eB ([] ++ q.1) from inferInstance) (show Sl (Row s3 eB ([] ++ q.1) :: Row s5 eI ([] ++ q.2) :: F) s5 eI ([] ++ q.2) from inferInstance)
            · (try dsimp only)
              omega
            · repeat (first | exact Sub.nil | refine Sub.cons rfl ?_)
            · (try dsimp only)
              refine Kb (Kc (Kc (HSub.starPut (HSub.starPut ?_))))
              (repeat (first | exact Ka | refine Kb ?_ | refine Kc ?_ | refine Kf ?_ | refine Kd ?_ | refine Ke ?_ | refine Kh ?_ | refine Kg rfl ?_ | refine Ki ?_ | refine Kj ?_ | refine Kk ?_ | refine Kl ?_ | refine Km ?_ | refine Kn ?_ | refine Ko ?_))
          · rintro _ _ ⟨s4, rfl, rfl⟩
            refine an_step 5 rfl (by kernel_rfl) rfl (fun k hk => ⟨fun hi => by subst hi; infer_instance, fun hi => by subst hi; infer_instance, fun hi => by subst hi; infer_instance⟩) (st_append rfl rfl rfl rfl (by simp only [List.length_nil]; omega) (by simp only [List.length_nil]; omega)) ?_
            rintro _ _ ⟨s3, rfl, rfl⟩
            refine an_step 9 rfl (by kernel_rfl) rfl (fun k hk => ⟨fun hi => by subst hi; infer_instance, fun hi => absurd hk (by subst hi; exact not_live (by kernel_rfl)), fun hi => by subst hi; infer_instance⟩) (st_append rfl rfl rfl rfl (by simp only [List.length_nil]; omega) (by simp only [List.length_nil]; omega)) ?_
            rintro _ _ ⟨s5, rfl, rfl⟩
            refine an_first 10 rfl rfl (by kernel_rfl) rfl (Qv.of_ev (fun H hH => ev_build (vs := [(0, _), (1, _)]) rfl)) ?_
            refine an_step 11 rfl (by kernel_rfl) rfl (fun k hk => ⟨fun hi => by subst hi; infer_instance, fun hi => absurd hk (by subst hi; exact not_live (by kernel_rfl)), fun hi => absurd hk (by subst hi; exact not_live (by kernel_rfl))⟩) (st_build1 eP rfl rfl) ?_
            rintro _ _ ⟨s6, rfl, rfl⟩
            refine an_step 12 rfl (by kernel_rfl) rfl (fun k hk => ⟨fun hi => by subst hi; infer_instance, fun hi => absurd hk (by subst hi; exact not_live (by kernel_rfl)), fun hi => absurd hk (by subst hi; exact not_live (by kernel_rfl))⟩) (st_append rfl rfl rfl rfl (by simp only [List.length_cons, List.length_nil]; omega) (by simp only [List.length_cons, List.length_nil]; omega)) ?_
            rintro _ _ ⟨s7, rfl, rfl⟩
            refine an_first 13 rfl rfl (by kernel_rfl) rfl (Qv.of_ev (fun H hH => ev_fieldAddr rfl)) ?_
            refine an_step 14 rfl (by kernel_rfl) rfl (fun k hk => ⟨fun hi => absurd hk (by subst hi; exact not_live (by kernel_rfl)), fun hi => absurd hk (by subst hi; exact not_live (by kernel_rfl)), fun hi => absurd hk (by subst hi; exact not_live (by kernel_rfl))⟩) (st_store rfl rfl rfl) ?_
            rintro _ _ ⟨rfl, rfl⟩
            refine an_nil (by kernel_rfl) (fun k hk => ⟨fun hi => absurd hk (by subst hi; exact not_live (by kernel_rfl)), fun hi => absurd hk (by subst hi; exact not_live (by kernel_rfl)), fun hi => absurd hk (by subst hi; exact not_live (by kernel_rfl))⟩) (bk_n (sq_n (w_region (?_))))
            refine o_ev (ev_add rfl rfl (by omega)) rfl ?_
            refine o_ev (ev_move rfl) rfl ?_
            refine o_nil (?_)
            skip
            refine lq_n ((s7, i + 1, l ++ [(s3, s5)], Row s3 eB ([] ++ q.1) :: Row s5 eI ([] ++ q.2) :: F)) ?_ ?_ ?_ ?_
            · (try dsimp only)
              refine ⟨by omega, ?_⟩
              rw [take_succ_get hq]
              exact hPs.snoc (F' := Row s3 eB ([] ++ q.1) :: Row s5 eI ([] ++ q.2) :: F) s3 s5 q.1 q.2 (fun _ _ h => inferInstance) (fun _ _ h => inferInstance) (show Sl (Row s3 eB ([] ++ q.1) :: Row s5 eI ([] ++ q.2) :: F) s3 eB ([] ++ q.1) from inferInstance) (show Sl (Row s3 eB ([] ++ q.1) :: Row s5 eI ([] ++ q.2) :: F) s5 eI ([] ++ q.2) from inferInstance)
            · (try dsimp only)
              omega
            · repeat (first | exact Sub.nil | refine Sub.cons rfl ?_)
            · (try dsimp only)
              refine Kb (Kc (Kc (HSub.starPut (HSub.starPut ?_))))
              (repeat (first | exact Ka | refine Kb ?_ | refine Kc ?_ | refine Kf ?_ | refine Kd ?_ | refine Ke ?_ | refine Kh ?_ | refine Kg rfl ?_ | refine Ki ?_ | refine Kj ?_ | refine Kk ?_ | refine Kl ?_ | refine Km ?_ | refine Kn ?_ | refine Ko ?_))
        · rintro _ _ ⟨s4, rfl, rfl⟩
          refine an_step 2 rfl (by kernel_rfl) rfl (fun k hk => ⟨fun hi => by subst hi; infer_instance, fun hi => by subst hi; infer_instance, fun hi => by subst hi; infer_instance⟩) (st_build0 eB rfl) ?_
          rintro _ _ ⟨s2, rfl, rfl⟩
          refine an_step 5 rfl (by kernel_rfl) rfl (fun k hk => ⟨fun hi => by subst hi; infer_instance, fun hi => by subst hi; infer_instance, fun hi => by subst hi; infer_instance⟩) (st_append rfl rfl rfl rfl (by simp only [List.length_nil]; omega) (by simp only [List.length_nil]; omega)) ?_
          rintro _ _ ⟨s3, rfl, rfl⟩
          refine an_step 9 rfl (by kernel_rfl) rfl (fun k hk => ⟨fun hi => by subst hi; infer_instance, fun hi => absurd hk (by subst hi; exact not_live (by kernel_rfl)), fun hi => by subst hi; infer_instance⟩) (st_append rfl rfl rfl rfl (by simp only [List.length_nil]; omega) (by simp only [List.length_nil]; omega)) ?_
          rintro _ _ ⟨s5, rfl, rfl⟩
          refine an_first 10 rfl rfl (by kernel_rfl) rfl (Qv.of_ev (fun H hH => ev_build (vs := [(0, _), (1, _)]) rfl)) ?_
          refine an_step 11 rfl (by kernel_rfl) rfl (fun k hk => ⟨fun hi => by subst hi; infer_instance, fun hi => absurd hk (by subst hi; exact not_live (by kernel_rfl)), fun hi => absurd hk (by subst hi; exact not_live (by kernel_rfl))⟩) (st_build1 eP rfl rfl) ?_
          rintro _ _ ⟨s6, rfl, rfl⟩
          refine an_step 12 rfl (by kernel_rfl) rfl (fun k hk => ⟨fun hi => by subst hi; infer_instance, fun hi => absurd hk (by subst hi; exact not_live (by kernel_rfl)), fun hi => absurd hk (by subst hi; exact not_live (by kernel_rfl))⟩) (st_append rfl rfl rfl rfl (by simp only [List.length_cons, List.length_nil]; omega) (by simp only [List.length_cons, List.length_nil]; omega)) ?_
          rintro _ _ ⟨s7, rfl, rfl⟩
          refine an_first 13 rfl rfl (by kernel_rfl) rfl (Qv.of_ev (fun H hH => ev_fieldAddr rfl)) ?_
          refine an_step 14 rfl (by kernel_rfl) rfl (fun k hk => ⟨fun hi => absurd hk (by subst hi; exact not_live (by kernel_rfl)), fun hi => absurd hk (by subst hi; exact not_live (by kernel_rfl)), fun hi => absurd hk (by subst hi; exact not_live (by kernel_rfl))⟩) (st_store rfl rfl rfl) ?_
          rintro _ _ ⟨rfl, rfl⟩
          refine an_nil (by kernel_rfl) (fun k hk => ⟨fun hi => absurd hk (by subst hi; exact not_live (by kernel_rfl)), fun hi => absurd hk (by subst hi; exact not_live (by kernel_rfl)), fun hi => absurd hk (by subst hi; exact not_live (by kernel_rfl))⟩) (bk_n (sq_n (w_region (?_))))
          refine o_ev (ev_add rfl rfl (by omega)) rfl ?_
          refine o_ev (ev_move rfl) rfl ?_
          refine o_nil (?_)
          skip
          refine lq_n ((s7, i + 1, l ++ [(s3, s5)], Row s3 eB ([] ++ q.1) :: Row s5 eI ([] ++ q.2) :: F)) ?_ ?_ ?_ ?_
          · (try dsimp only)
            refine ⟨by omega, ?_⟩
            rw [take_succ_get hq]
            exact hPs.snoc (F' := Row s3 eB ([] ++ q.1) :: Row s5 eI ([] ++ q.2) :: F) s3 s5 q.1 q.2 (fun _ _ h => inferInstance) (fun _ _ h => inferInstance) (show Sl (Row s3 eB ([] ++ q.1) :: Row s5 eI ([] ++ q.2) :: F) s3 eB ([] ++ q.1) from inferInstance) (show Sl (Row s3 eB ([] ++ q.1) :: Row s5 eI ([] ++ q.2) :: F) s5 eI ([] ++ q.2) from inferInstance)
          · (try dsimp only)
            omega
          · repeat (first | exact Sub.nil | refine Sub.cons rfl ?_)
          · (try dsimp only)
            refine Kb (Kc (Kc (HSub.starPut (HSub.starPut ?_))))
            (repeat (first | exact Ka | refine Kb ?_ | refine Kc ?_ | refine Kf ?_ | refine Kd ?_ | refine Ke ?_ | refine Kh ?_ | refine Kg rfl ?_ | refine Ki ?_ | refine Kj ?_ | refine Kk ?_ | refine Kl ?_ | refine Km ?_ | refine Kn ?_ | refine Ko ?_))
      · skip
        try simp only [Za, Zb, Zc, Zd, Ze, Zf, Zg, Zh] at h3
        obtain rfl : i = ps.length := by omega
        rw [List.take_length] at hPs
        refine w_exit (sq_e (lq_e (bk_h (sq_n (w_seq (w_region (?_)))))))
        refine o_ev (ev_loadS rfl) rfl ?_
        refine o_st (st_store rfl rfl rfl) rfl ?_
        rintro _ _ ⟨rfl, rfl⟩
        refine o_nil (sq_n (w_ret (?_)))
        refine res_intro (vs := [_]) Tryz.results10 (.inr rfl) (.cons ((.cell rfl rfl)) (.nil)) ?_
        exact ⟨_, by (repeat (first | exact Ka | refine Kb ?_ | refine Kc ?_ | refine Kf ?_ | refine Kd ?_ | refine Ke ?_ | refine Kh ?_ | refine Kg rfl ?_ | refine Ki ?_ | refine Kj ?_ | refine Kk ?_ | refine Kl ?_ | refine Km ?_ | refine Kn ?_ | refine Ko ?_)), l, F, s1, s, hPs, rfl, rfl⟩
end Go.Sx
