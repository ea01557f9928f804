import Derived.Test.YtcbidldebfibkaaGreatDoorW27
import Derived.Laws.StructEq
set_option linter.unusedVariables false
set_option linter.unusedSimpArgs false
set_option linter.unusedSectionVars false
set_option linter.unnecessarySimpa false
namespace Go.Sx
open Go Go.Proofs
set_option maxRecDepth 100000
set_option linter.unusedSimpArgs false
set_option linter.unusedVariables false
theorem fields59 : (Tryz.prog.fieldsOf 59).toList = [{ name := "Name", type := 9, offset := 0, embedded := false, tag := "", pkgPath := "", byteOffset := 0 },
        { name := "Kind", type := 3, offset := 1, embedded := false, tag := "", pkgPath := "", byteOffset := 16 },
        { name := "Fold", type := 4, offset := 2, embedded := false, tag := "", pkgPath := "", byteOffset := 24 },
        { name := "Stop", type := 4, offset := 3, embedded := false, tag := "", pkgPath := "", byteOffset := 25 },
        { name := "Stem", type := 4, offset := 4, embedded := false, tag := "", pkgPath := "", byteOffset := 26 }] := by
  rw [Program.fieldsOf, Tryz.underlying59]
theorem und59 : Tryz.prog.underlying 59 = some (.struct (Tryz.prog.fieldsOf 59)) := by
  rw [Program.fieldsOf, Tryz.underlying59]
theorem held59 : Tryz.prog.stoodInHeld 59 = false := by kernel_rfl
theorem guard59 : Tryz.prog.eqGuardType Tryz.prog.depth 59 = false := by kernel_rfl
theorem part_one {P : Program} {T : TypeId} [One P T] {xs : Array Value} {o : Nat} {v : Value} (h : xs[o]? = some v) (w : World) : (part T xs o).run P w = .ok v w := by
  simp only [part, Sem.run_bind, run_isAgg_one, Result.andThen_ok, Bool.false_eq_true, ↓reduceIte, h, Sem.run_pure]
theorem run_eq_fv (a b : FV) (w : World) : (Op.equalIn 10000 59 (.agg [.string a.name, .int .i64 a.kind, .bool a.fold, .bool a.stop, .bool a.stem].toArray) (.agg [.string b.name, .int .i64 b.kind, .bool b.fold, .bool b.stop, .bool b.stem].toArray)).run Tryz.prog w = .ok (decide (a = b)) w := by
  rw [run_equalIn_struct w 9999 59 _ _ und59 held59, fields59]
  have n1 : ("Name" : String) ≠ "_" := by decide
  have n2 : ("Kind" : String) ≠ "_" := by decide
  have n3 : ("Fold" : String) ≠ "_" := by decide
  have n4 : ("Stop" : String) ≠ "_" := by decide
  have n5 : ("Stem" : String) ≠ "_" := by decide
  have q0 : ∀ (x0 x1 x2 x3 x4 : Value) (w : World), (part 9 [x0, x1, x2, x3, x4].toArray 0).run Tryz.prog w = .ok x0 w := fun _ _ _ _ _ w => part_one rfl w
  have q1 : ∀ (x0 x1 x2 x3 x4 : Value) (w : World), (part 3 [x0, x1, x2, x3, x4].toArray 1).run Tryz.prog w = .ok x1 w := fun _ _ _ _ _ w => part_one rfl w
  have q2 : ∀ (x0 x1 x2 x3 x4 : Value) (w : World), (part 4 [x0, x1, x2, x3, x4].toArray 2).run Tryz.prog w = .ok x2 w := fun _ _ _ _ _ w => part_one rfl w
  have q3 : ∀ (x0 x1 x2 x3 x4 : Value) (w : World), (part 4 [x0, x1, x2, x3, x4].toArray 3).run Tryz.prog w = .ok x3 w := fun _ _ _ _ _ w => part_one rfl w
  have q4 : ∀ (x0 x1 x2 x3 x4 : Value) (w : World), (part 4 [x0, x1, x2, x3, x4].toArray 4).run Tryz.prog w = .ok x4 w := fun _ _ _ _ _ w => part_one rfl w
  have e1 := fun w => run_equalIn_string (P := Tryz.prog) w 9998 9 a.name b.name Tryz.underlying9
  have e2 := fun w => run_equalIn_int (P := Tryz.prog) w 9998 3 .i64 .i64 a.kind b.kind Tryz.underlying3
  have e3 := fun w (x y : Bool) => run_equalIn_bool' (P := Tryz.prog) w 9998 4 x y Tryz.underlying4
  simp only [Op.eqFields, n1, n2, n3, n4, n5, ne_eq, not_false_eq_true, ↓reduceIte, Sem.run_bind, q0, Result.andThen_ok, e1, ba_beq]
  obtain ⟨na, ka, fa, sa, ta⟩ := a
  obtain ⟨nb, kb, fb, sb, tb⟩ := b
  simp only [FV.mk.injEq]
  by_cases h1 : byts na = byts nb
  · have h1' := byts_inj.1 h1
    subst h1'
    simp only [decide_true, Bool.not_true, Bool.false_eq_true, ↓reduceIte, Sem.run_bind, q1, Result.andThen_ok, e2, true_and]
    by_cases h2 : ka = kb
    · subst h2
      simp only [beq_self_eq_true, Bool.not_true, Bool.false_eq_true, ↓reduceIte, Sem.run_bind, q2, Result.andThen_ok, e3, true_and]
      by_cases h3 : fa = fb
      · subst h3
        simp only [beq_self_eq_true, Bool.not_true, Bool.false_eq_true, ↓reduceIte, Sem.run_bind, q3, Result.andThen_ok, e3, true_and]
        by_cases h4 : sa = sb
        · subst h4
          simp only [beq_self_eq_true, Bool.not_true, Bool.false_eq_true, ↓reduceIte, Sem.run_bind, q4, Result.andThen_ok, e3, true_and]
          by_cases h5 : ta = tb
          · subst h5
            simp only [beq_self_eq_true, Bool.not_true, Bool.false_eq_true, ↓reduceIte, Sem.run_pure, decide_true]
          · have h6 : (ta == tb) = false := by simpa using h5
            simp only [h6, Bool.not_false, ↓reduceIte, Sem.run_pure, decide_eq_false h5]
        · have h6 : (sa == sb) = false := by simpa using h4
          simp only [h6, Bool.not_false, ↓reduceIte, Sem.run_pure]
          rw [decide_eq_false (fun h => h4 h.1)]
      · have h6 : (fa == fb) = false := by simpa using h3
        simp only [h6, Bool.not_false, ↓reduceIte, Sem.run_pure]
        rw [decide_eq_false (fun h => h3 h.1)]
    · have h6 : (ka == kb) = false := by simpa using h2
      simp only [h6, Bool.not_false, ↓reduceIte, Sem.run_pure]
      rw [decide_eq_false (fun h => h2 h.1)]
  · simp only [decide_eq_false h1, Bool.not_false, ↓reduceIte, Sem.run_pure]
    rw [decide_eq_false (fun h => h1 (by rw [h.1]))]
section
variable {G : Base} {t : Tm} {H : Heap} {dst : Option Tmp} {ty : TypeId} {pos : String} {after : Array Edge} {g : Option (Nat × Bool)}
/-- Two fields: are they other ones? -/
theorem ev_neq_fv {U : TypeId} {x y : Operand} (a b : FV) (hx : evo t x = some (.agg [.string a.name, .int .i64 a.kind, .bool a.fold, .bool a.stop, .bool a.stem].toArray)) (hy : evo t y = some (.agg [.string b.name, .int .i64 b.kind, .bool b.fold, .bool b.stop, .bool b.stem].toArray)) :
    Ev G Tryz.prog ⟨dst, .binOp .neq 59 x y U, ty, pos, after, g⟩ t H (.bool (!decide (a = b))) :=
  fun ρ hρ w _ => by
    simp only [execOp, hρ _ _ hx, hρ _ _ hy, Sem.run_bind, run_eqGuard_agg w .neq 59 x y _ _ guard59, Result.andThen_ok, run_neq_struct, run_eq_fv, Sem.run_pure]
end

theorem fieldsEq {G : Base} {H : Heap} {s s2 : SV} {xs ys : List FV} [Sl H s eF xs] [Sl H s2 eF ys] (hn : xs.length ≤ 1000000000000) : SC G Tryz.prog 23 [s.val, s2.val] H (fun v H' => v = .bool (decide (xs = ys)) ∧ H' = H) := by
  refine SC.out (sc_walk Tryz.func23 rfl Tryz.ntmps23 (by kernel_rfl) (Nat.le_of_ble_eq_true rfl) ?_)
  refine w_seq (w_region (?_))
  refine o_ev (ev_assign rfl) rfl ?_
  refine o_nil (sq_n (w_seq (w_seq (w_region (?_)))))
  refine o_ev (ev_move rfl) rfl ?_
  refine o_ev (ev_len1 rfl) rfl ?_
  refine o_ev (ev_move rfl) rfl ?_
  refine o_ev (ev_len1 rfl) rfl ?_
  refine o_ev (ev_neq rfl rfl) rfl ?_
  refine o_nil (sq_n (?_))
  refine w_if rfl (fun h1 => ?_) (fun h1 => ?_)
  · skip
    try simp only [Za, Zb, Zc, Zd, Ze, Zf, Zg, Zh] at h1
    refine w_seq (w_region (?_))
    refine o_ev (ev_assign rfl) rfl ?_
    refine o_nil (sq_n (w_ret (sq_r (?_))))
    refine res_intro (vs := [_]) Tryz.results23 (.inr rfl) (.cons (.tmp rfl) (.nil)) ?_
    exact ⟨_, Ka, by rw [decide_eq_false (by rintro rfl; omega)]; rfl, rfl⟩
  · skip
    try simp only [Za, Zb, Zc, Zd, Ze, Zf, Zg, Zh] at h1
    refine w_skip (sq_n (w_seq (w_seq (w_region (?_)))))
    refine o_ev (ev_move rfl) rfl ?_
    refine o_ev (ev_len1 rfl) rfl ?_
    refine o_ev (ev_move rfl) rfl ?_
    refine o_nil (sq_n (w_block (?_)))
    refine w_loop (Nat) (fun i => i ≤ xs.length ∧ xs.length = ys.length ∧ ∀ j, j < i → xs[j]? = ys[j]?) (fun i => [(0, s.val), (1, s2.val), (12, .int .i64 ((xs.length : Nat) : Int)), (13, .int .i64 ((i : Nat) : Int))]) (fun _ => H) (fun i => xs.length - i) (0) ?_ ?_ ?_ ?_
    · (try dsimp only)
      exact ⟨Nat.zero_le _, by omega, fun j h => absurd h (Nat.not_lt_zero _)⟩
    · repeat (first | exact Sub.nil | refine Sub.cons rfl ?_)
    · (try dsimp only)
      (repeat (first | exact Ka | refine Kb ?_ | refine Kc ?_ | refine Kf ?_ | refine Kd ?_ | refine Ke ?_ | refine Kh ?_ | refine Kg rfl ?_ | refine Ki ?_ | refine Kj ?_ | refine Kk ?_ | refine Kl ?_ | refine Km ?_ | refine Kn ?_ | refine Ko ?_))
    · rintro i ⟨hi, hl, hall⟩
      (try dsimp only at *)
      refine w_seq (w_region (?_))
      refine o_ev (ev_lss rfl rfl) rfl ?_
      refine o_nil (sq_n (w_seq (?_)))
      refine w_if rfl (fun h2 => ?_) (fun h2 => ?_)
      · skip
        try simp only [Za, Zb, Zc, Zd, Ze, Zf, Zg, Zh] at h2
        obtain ⟨x, hx⟩ : ∃ x, xs[i]? = some x := ⟨_, List.getElem?_eq_getElem (by omega)⟩
        obtain ⟨y, hy⟩ : ∃ x, ys[i]? = some x := ⟨_, List.getElem?_eq_getElem (by omega)⟩
        refine w_skip (sq_n (w_seq (w_block (w_seq (w_region (?_))))))
        refine o_ev (ev_move rfl) rfl ?_
        refine o_ev (ev_assign rfl) rfl ?_
        refine o_nil (sq_n (w_seq (?_)))
        refine w_still Tryz_mixed ?_
        refine an_first 0 rfl rfl (by kernel_rfl) rfl (qv_at (ev_move rfl)) ?_
        refine an_first 1 rfl rfl (by kernel_rfl) rfl (qv_at (ev_move rfl)) ?_
        refine an_first 2 rfl rfl (by kernel_rfl) rfl (qv_at (ev_indexAddr rfl rfl i rfl (by omega))) ?_
        refine an_first 3 rfl rfl (by kernel_rfl) rfl (qv_at (ev_loadS_el rfl (by rfl) (by rfl) x hx)) ?_
        refine an_first 4 rfl rfl (by kernel_rfl) rfl (qv_at (ev_move rfl)) ?_
        refine an_first 5 rfl rfl (by kernel_rfl) rfl (qv_at (ev_move rfl)) ?_
        refine an_first 6 rfl rfl (by kernel_rfl) rfl (qv_at (ev_indexAddr rfl rfl i rfl (by omega))) ?_
        refine an_first 7 rfl rfl (by kernel_rfl) rfl (qv_at (ev_loadS_el rfl (by rfl) (by rfl) y hy)) ?_
        refine an_first 8 rfl rfl (by kernel_rfl) rfl (qv_at (ev_neq_fv x y rfl rfl)) ?_
        refine an_nil (by kernel_rfl) (fun _ _ => rfl) (sq_n (?_))
        refine w_if rfl (fun h3 => ?_) (fun h3 => ?_)
        · skip
          try simp only [Za, Zb, Zc, Zd, Ze, Zf, Zg, Zh] at h3
          refine w_seq (w_region (?_))
          refine o_ev (ev_assign rfl) rfl ?_
          refine o_nil (sq_n (w_ret (bk_r (sq_r (lq_r (bk_r (sq_r (?_))))))))
          refine res_intro (vs := [_]) Tryz.results23 (.inr rfl) (.cons (.tmp rfl) (.nil)) ?_
          exact ⟨_, Ka, by rw [decide_eq_false (by rintro rfl; rw [hx] at hy; cases hy; contradiction)]; rfl, rfl⟩
        · skip
          try simp only [Za, Zb, Zc, Zd, Ze, Zf, Zg, Zh] at h3
          refine w_skip (bk_n (sq_n (w_region (?_))))
          refine o_ev (ev_add rfl rfl (by omega)) rfl ?_
          refine o_ev (ev_move rfl) rfl ?_
          refine o_nil (?_)
          skip
          refine lq_n (i + 1) ?_ ?_ ?_ ?_
          · (try dsimp only)
            refine ⟨by omega, hl, fun j hj => ?_⟩
            rcases Nat.lt_or_eq_of_le (Nat.le_of_lt_succ hj) with h | rfl
            · exact hall j h
            · rw [hx, hy, show x = y by assumption]
          · (try dsimp only)
            omega
          · repeat (first | exact Sub.nil | refine Sub.cons rfl ?_)
          · (try dsimp only)
            (repeat (first | exact Ka | refine Kb ?_ | refine Kc ?_ | refine Kf ?_ | refine Kd ?_ | refine Ke ?_ | refine Kh ?_ | refine Kg rfl ?_ | refine Ki ?_ | refine Kj ?_ | refine Kk ?_ | refine Kl ?_ | refine Km ?_ | refine Kn ?_ | refine Ko ?_))
      · skip
        try simp only [Za, Zb, Zc, Zd, Ze, Zf, Zg, Zh] at h2
        obtain rfl : i = xs.length := by omega
        refine w_exit (sq_e (lq_e (bk_h (sq_n (w_seq (w_region (?_)))))))
        refine o_ev (ev_assign rfl) rfl ?_
        refine o_nil (sq_n (w_ret (?_)))
        refine res_intro (vs := [_]) Tryz.results23 (.inr rfl) (.cons (.tmp rfl) (.nil)) ?_
        exact ⟨_, Ka, by rw [decide_eq_true (ext_below hl hall)]; rfl, rfl⟩

theorem sameIx {G : Base} {H : Heap} {sf sp sf2 sp2 : SV} {fs fs2 : List FV} {lp lp2 : List (SV × SV)} {ps ps2 : Pcs} {n n2 : Int} [Sl H sf eF fs] [hsp : Sl H sp eP lp] [Sl H sf2 eF fs2] [hsp2 : Sl H sp2 eP lp2] (hP : PsIn H lp ps) (hP2 : PsIn H lp2 ps2)
    (hb : ∀ p ∈ ps, ∀ x ∈ p.1, x < 256) (hb2 : ∀ p ∈ ps2, ∀ x ∈ p.1, x < 256) (hd : ∀ p ∈ ps, p.2.length ≤ 1000000000000) (hn : fs.length ≤ 1000000000000) (hpl : ps.length ≤ 1000000000000) :
    SC G Tryz.prog 14 [.agg [sf.val, .int .i64 n, sp.val].toArray, .agg [sf2.val, .int .i64 n2, sp2.val].toArray] H (fun v H' => v = .bool (decide (fs = fs2 ∧ n = n2 ∧ ps = ps2)) ∧ H' = H) := by
  obtain ⟨hlen, hin⟩ := hP
  obtain ⟨hlen2, hin2⟩ := hP2
  refine SC.out (sc_walk Tryz.func14 rfl Tryz.ntmps14 (by kernel_rfl) (Nat.le_of_ble_eq_true rfl) ?_)
  refine w_seq (w_region (?_))
  refine o_st (st_box rfl) rfl ?_
  rintro _ _ ⟨b1, rfl, rfl⟩
  refine o_st (st_box rfl) rfl ?_
  rintro _ _ ⟨b2, rfl, rfl⟩
  refine o_ev (ev_assign rfl) rfl ?_
  refine o_nil (sq_n (w_seq (w_seq (w_region (?_)))))
  refine o_ev (ev_fieldAddr rfl) rfl ?_
  refine o_ev (ev_fieldAddr rfl) rfl ?_
  refine o_ev (ev_load rfl) rfl ?_
  refine o_ev (ev_fieldAddr rfl) rfl ?_
  refine o_ev (ev_fieldAddr rfl) rfl ?_
  refine o_ev (ev_load rfl) rfl ?_
  refine o_st (st_call (vs := [_, _]) rfl (fieldsEq hn)) rfl ?_
  rintro _ _ ⟨rfl, rfl⟩
  refine o_ev (ev_not rfl) rfl ?_
  refine o_split (ev_move rfl) rfl (fun h1 => ?_) (fun h1 => ?_)
  · skip
    try simp only [Za, Zb, Zc, Zd, Ze, Zf, Zg, Zh] at h1
    refine o_off rfl rfl rfl ?_
    refine o_off rfl rfl rfl ?_
    refine o_off rfl rfl rfl ?_
    refine o_off rfl rfl rfl ?_
    refine o_off rfl rfl rfl ?_
    refine o_ev (ev_pick_t rfl rfl) rfl ?_
    refine o_ev (ev_move rfl) rfl ?_
    refine o_off rfl rfl rfl ?_
    refine o_off rfl rfl rfl ?_
    refine o_off rfl rfl rfl ?_
    refine o_off rfl rfl rfl ?_
    refine o_off rfl rfl rfl ?_
    refine o_off rfl rfl rfl ?_
    refine o_off rfl rfl rfl ?_
    refine o_ev (ev_pick_t rfl rfl) rfl ?_
    refine o_nil (sq_n (?_))
    refine w_if_true rfl (w_seq (w_region (?_)))
    refine o_ev (ev_assign rfl) rfl ?_
    refine o_nil (sq_n (w_ret (sq_r (?_))))
    refine res_intro (vs := [_]) Tryz.results14 (.inr rfl) (.cons (.tmp rfl) (.nil)) ?_
    refine ⟨_, by (repeat (first | exact Ka | refine Kb ?_ | refine Kc ?_ | refine Kf ?_ | refine Kd ?_ | refine Ke ?_ | refine Kh ?_ | refine Kg rfl ?_ | refine Ki ?_ | refine Kj ?_ | refine Kk ?_ | refine Kl ?_ | refine Km ?_ | refine Kn ?_ | refine Ko ?_)), ?_, rfl⟩
    rw [decide_eq_false]
    · rfl
    · rintro ⟨g1, g2, g3⟩
      first
        | exact absurd g1 (by assumption)
        | exact absurd g2 (by assumption)
        | (have := congrArg List.length g3; omega)
  · skip
    try simp only [Za, Zb, Zc, Zd, Ze, Zf, Zg, Zh] at h1
    refine o_on_ev rfl rfl rfl (ev_fieldAddr rfl) ?_
    refine o_on_ev rfl rfl rfl (ev_load rfl) ?_
    refine o_on_ev rfl rfl rfl (ev_fieldAddr rfl) ?_
    refine o_on_ev rfl rfl rfl (ev_load rfl) ?_
    refine o_on_ev rfl rfl rfl (ev_neq rfl rfl) ?_
    refine o_ev (ev_pick_f rfl rfl) rfl ?_
    refine o_split (ev_move rfl) rfl (fun h2 => ?_) (fun h2 => ?_)
    · skip
      try simp only [Za, Zb, Zc, Zd, Ze, Zf, Zg, Zh] at h2
      refine o_off rfl rfl rfl ?_
      refine o_off rfl rfl rfl ?_
      refine o_off rfl rfl rfl ?_
      refine o_off rfl rfl rfl ?_
      refine o_off rfl rfl rfl ?_
      refine o_off rfl rfl rfl ?_
      refine o_off rfl rfl rfl ?_
      refine o_ev (ev_pick_t rfl rfl) rfl ?_
      refine o_nil (sq_n (?_))
      refine w_if_true rfl (w_seq (w_region (?_)))
      refine o_ev (ev_assign rfl) rfl ?_
      refine o_nil (sq_n (w_ret (sq_r (?_))))
      refine res_intro (vs := [_]) Tryz.results14 (.inr rfl) (.cons (.tmp rfl) (.nil)) ?_
      refine ⟨_, by (repeat (first | exact Ka | refine Kb ?_ | refine Kc ?_ | refine Kf ?_ | refine Kd ?_ | refine Ke ?_ | refine Kh ?_ | refine Kg rfl ?_ | refine Ki ?_ | refine Kj ?_ | refine Kk ?_ | refine Kl ?_ | refine Km ?_ | refine Kn ?_ | refine Ko ?_)), ?_, rfl⟩
      rw [decide_eq_false]
      · rfl
      · rintro ⟨g1, g2, g3⟩
        first
          | exact absurd g1 (by assumption)
          | exact absurd g2 (by assumption)
          | (have := congrArg List.length g3; omega)
    · skip
      try simp only [Za, Zb, Zc, Zd, Ze, Zf, Zg, Zh] at h2
      refine o_on_ev rfl rfl rfl (ev_fieldAddr rfl) ?_
      refine o_on_ev rfl rfl rfl (ev_load rfl) ?_
      refine o_on_ev rfl rfl rfl (ev_len1 rfl) ?_
      refine o_on_ev rfl rfl rfl (ev_fieldAddr rfl) ?_
      refine o_on_ev rfl rfl rfl (ev_load rfl) ?_
      refine o_on_ev rfl rfl rfl (ev_len1 rfl) ?_
      refine o_on_ev rfl rfl rfl (ev_neq rfl rfl) ?_
      refine o_ev (ev_pick_f rfl rfl) rfl ?_
      refine o_nil (sq_n (?_))
      refine w_if rfl (fun h3 => ?_) (fun h3 => ?_)
      · skip
        try simp only [Za, Zb, Zc, Zd, Ze, Zf, Zg, Zh] at h3
        refine w_seq (w_region (?_))
        refine o_ev (ev_assign rfl) rfl ?_
        refine o_nil (sq_n (w_ret (sq_r (?_))))
        refine res_intro (vs := [_]) Tryz.results14 (.inr rfl) (.cons (.tmp rfl) (.nil)) ?_
        refine ⟨_, by (repeat (first | exact Ka | refine Kb ?_ | refine Kc ?_ | refine Kf ?_ | refine Kd ?_ | refine Ke ?_ | refine Kh ?_ | refine Kg rfl ?_ | refine Ki ?_ | refine Kj ?_ | refine Kk ?_ | refine Kl ?_ | refine Km ?_ | refine Kn ?_ | refine Ko ?_)), ?_, rfl⟩
        rw [decide_eq_false]
        · rfl
        · rintro ⟨g1, g2, g3⟩
          first
            | exact absurd g1 (by assumption)
            | exact absurd g2 (by assumption)
            | (have := congrArg List.length g3; omega)
      · skip
        try simp only [Za, Zb, Zc, Zd, Ze, Zf, Zg, Zh] at h3
        refine w_skip (sq_n (w_seq (w_seq (w_region (?_)))))
        have gF : fs = fs2 := by assumption
        have gN : n = n2 := by assumption
        refine o_ev (ev_fieldAddr rfl) rfl ?_
        refine o_ev (ev_load rfl) rfl ?_
        refine o_ev (ev_len1 rfl) rfl ?_
        refine o_ev (ev_move rfl) rfl ?_
        refine o_nil (sq_n (w_block (?_)))
        refine w_loop (Nat) (fun i => i ≤ ps.length ∧ ps.length = ps2.length ∧ ∀ j, j < i → ps[j]? = ps2[j]?) (fun i => [(2, .pointer (some ⟨b1, 0, none⟩)), (3, .pointer (some ⟨b2, 0, none⟩)), (32, .int .i64 ((ps.length : Nat) : Int)), (33, .int .i64 ((i : Nat) : Int))]) (fun _ => Vr b2 [sf2.val, .int .i64 n2, sp2.val] :: Vr b1 [sf.val, .int .i64 n, sp.val] :: H) (fun i => ps.length - i) (0) ?_ ?_ ?_ ?_
        · (try dsimp only)
          exact ⟨Nat.zero_le _, by omega, fun j h => absurd h (Nat.not_lt_zero _)⟩
        · rw [hlen]
          repeat (first | exact Sub.nil | refine Sub.cons rfl ?_)
        · (try dsimp only)
          (repeat (first | exact Ka | refine Kb ?_ | refine Kc ?_ | refine Kf ?_ | refine Kd ?_ | refine Ke ?_ | refine Kh ?_ | refine Kg rfl ?_ | refine Ki ?_ | refine Kj ?_ | refine Kk ?_ | refine Kl ?_ | refine Km ?_ | refine Kn ?_ | refine Ko ?_))
        · rintro i ⟨hi, hl, hall⟩
          (try dsimp only at *)
          refine w_seq (w_region (?_))
          refine o_ev (ev_lss rfl rfl) rfl ?_
          refine o_nil (sq_n (w_seq (?_)))
          refine w_if rfl (fun h4 => ?_) (fun h4 => ?_)
          · skip
            try simp only [Za, Zb, Zc, Zd, Ze, Zf, Zg, Zh] at h4
            obtain ⟨p, hp⟩ : ∃ p, lp[i]? = some p := ⟨_, List.getElem?_eq_getElem (by omega)⟩
            obtain ⟨q, hq⟩ : ∃ q, ps[i]? = some q := ⟨_, List.getElem?_eq_getElem (by omega)⟩
            obtain ⟨p2, hp2⟩ : ∃ p, lp2[i]? = some p := ⟨_, List.getElem?_eq_getElem (by omega)⟩
            obtain ⟨q2, hq2⟩ : ∃ q, ps2[i]? = some q := ⟨_, List.getElem?_eq_getElem (by omega)⟩
            obtain ⟨hS1, hS2⟩ := hin i p q hp hq
            obtain ⟨hT1, hT2⟩ := hin2 i p2 q2 hp2 hq2
            have kb := hb q (List.mem_of_getElem? hq)
            have kb2 := hb2 q2 (List.mem_of_getElem? hq2)
            have kd := hd q (List.mem_of_getElem? hq)
            refine w_skip (sq_n (w_seq (w_block (w_seq (w_region (?_))))))
            refine o_ev (ev_move rfl) rfl ?_
            refine o_ev (ev_assign rfl) rfl ?_
            refine o_nil (sq_n (w_seq (?_)))
            refine w_still Tryz_mixed ?_
            refine an_first 0 rfl rfl (by kernel_rfl) rfl (qv_at (ev_fieldAddr rfl)) ?_
            refine an_first 1 rfl rfl (by kernel_rfl) rfl (qv_at (ev_load rfl)) ?_
            refine an_first 2 rfl rfl (by kernel_rfl) rfl (qv_at (ev_move rfl)) ?_
            refine an_first 3 rfl rfl (by kernel_rfl) rfl (qv_at (ev_indexAddr rfl rfl i rfl (by omega))) ?_
            refine an_first 4 rfl rfl (by kernel_rfl) rfl (qv_at (ev_fieldAddr_elt rfl (by omega))) ?_
            refine an_first 5 rfl rfl (by kernel_rfl) rfl (qv_at (ev_load_fl rfl (by rfl) p hp (by rfl))) ?_
            refine an_first 6 rfl rfl (by kernel_rfl) rfl (qv_at (ev_fieldAddr rfl)) ?_
            refine an_first 7 rfl rfl (by kernel_rfl) rfl (qv_at (ev_load rfl)) ?_
            refine an_first 8 rfl rfl (by kernel_rfl) rfl (qv_at (ev_move rfl)) ?_
            refine an_first 9 rfl rfl (by kernel_rfl) rfl (qv_at (ev_indexAddr rfl rfl i rfl (by omega))) ?_
            refine an_first 10 rfl rfl (by kernel_rfl) rfl (qv_at (ev_fieldAddr_elt rfl (by omega))) ?_
            refine an_first 11 rfl rfl (by kernel_rfl) rfl (qv_at (ev_load_fl rfl (by rfl) p2 hp2 (by rfl))) ?_
            refine an_first 12 rfl rfl (by kernel_rfl) rfl (qv_call (vs := [_, _]) rfl (bytesEq kb kb2)) ?_
            refine an_first 13 rfl rfl (by kernel_rfl) rfl (qv_at (ev_not rfl)) ?_
            refine an_split 14 rfl rfl (by kernel_rfl) rfl (qv_at (ev_move rfl)) (fun h5 => ?_) (fun h5 => ?_)
            · skip
              try simp only [Za, Zb, Zc, Zd, Ze, Zf, Zg, Zh] at h5
              refine an_off 15 rfl rfl rfl rfl (by kernel_rfl) rfl ?_
              refine an_off 16 rfl rfl rfl rfl (by kernel_rfl) rfl ?_
              refine an_off 17 rfl rfl rfl rfl (by kernel_rfl) rfl ?_
              refine an_off 18 rfl rfl rfl rfl (by kernel_rfl) rfl ?_
              refine an_off 19 rfl rfl rfl rfl (by kernel_rfl) rfl ?_
              refine an_off 20 rfl rfl rfl rfl (by kernel_rfl) rfl ?_
              refine an_off 21 rfl rfl rfl rfl (by kernel_rfl) rfl ?_
              refine an_off 22 rfl rfl rfl rfl (by kernel_rfl) rfl ?_
              refine an_off 23 rfl rfl rfl rfl (by kernel_rfl) rfl ?_
              refine an_off 24 rfl rfl rfl rfl (by kernel_rfl) rfl ?_
              refine an_off 25 rfl rfl rfl rfl (by kernel_rfl) rfl ?_
              refine an_off 26 rfl rfl rfl rfl (by kernel_rfl) rfl ?_
              refine an_off 27 rfl rfl rfl rfl (by kernel_rfl) rfl ?_
              refine an_off 28 rfl rfl rfl rfl (by kernel_rfl) rfl ?_
              refine an_first 29 rfl rfl (by kernel_rfl) rfl (qv_at (ev_pick_t rfl rfl)) ?_
              refine an_nil (by kernel_rfl) (fun _ _ => rfl) (sq_n (?_))
              refine w_if_true rfl (w_seq (w_region (?_)))
              refine o_ev (ev_assign rfl) rfl ?_
              refine o_nil (sq_n (w_ret (bk_r (sq_r (lq_r (bk_r (sq_r (?_))))))))
              refine res_intro (vs := [_]) Tryz.results14 (.inr rfl) (.cons (.tmp rfl) (.nil)) ?_
              refine ⟨_, by (repeat (first | exact Ka | refine Kb ?_ | refine Kc ?_ | refine Kf ?_ | refine Kd ?_ | refine Ke ?_ | refine Kh ?_ | refine Kg rfl ?_ | refine Ki ?_ | refine Kj ?_ | refine Kk ?_ | refine Kl ?_ | refine Km ?_ | refine Kn ?_ | refine Ko ?_)), ?_, rfl⟩
              have hne : q ≠ q2 := by
                intro e
                subst e
                first
                  | exact absurd rfl (by assumption)
                  | contradiction
              rw [decide_eq_false]
              · rfl
              · rintro ⟨_, _, g3⟩
                rw [g3, hq2] at hq
                exact hne (Option.some.inj hq).symm
            · skip
              try simp only [Za, Zb, Zc, Zd, Ze, Zf, Zg, Zh] at h5
              refine an_on 15 rfl rfl rfl rfl (by kernel_rfl) rfl (qv_at (ev_fieldAddr rfl)) ?_
              refine an_on 16 rfl rfl rfl rfl (by kernel_rfl) rfl (qv_at (ev_load rfl)) ?_
              refine an_on 17 rfl rfl rfl rfl (by kernel_rfl) rfl (qv_at (ev_move rfl)) ?_
              refine an_on 18 rfl rfl rfl rfl (by kernel_rfl) rfl (qv_at (ev_indexAddr rfl rfl i rfl (by omega))) ?_
              refine an_on 19 rfl rfl rfl rfl (by kernel_rfl) rfl (qv_at (ev_fieldAddr_elt rfl (by omega))) ?_
              refine an_on 20 rfl rfl rfl rfl (by kernel_rfl) rfl (qv_at (ev_load_fl rfl (by rfl) p hp (by rfl))) ?_
              refine an_on 21 rfl rfl rfl rfl (by kernel_rfl) rfl (qv_at (ev_fieldAddr rfl)) ?_
              refine an_on 22 rfl rfl rfl rfl (by kernel_rfl) rfl (qv_at (ev_load rfl)) ?_
              refine an_on 23 rfl rfl rfl rfl (by kernel_rfl) rfl (qv_at (ev_move rfl)) ?_
              refine an_on 24 rfl rfl rfl rfl (by kernel_rfl) rfl (qv_at (ev_indexAddr rfl rfl i rfl (by omega))) ?_
              refine an_on 25 rfl rfl rfl rfl (by kernel_rfl) rfl (qv_at (ev_fieldAddr_elt rfl (by omega))) ?_
              refine an_on 26 rfl rfl rfl rfl (by kernel_rfl) rfl (qv_at (ev_load_fl rfl (by rfl) p2 hp2 (by rfl))) ?_
              refine an_on 27 rfl rfl rfl rfl (by kernel_rfl) rfl (qv_call (vs := [_, _]) rfl (intsEq kd)) ?_
              refine an_on 28 rfl rfl rfl rfl (by kernel_rfl) rfl (qv_at (ev_not rfl)) ?_
              refine an_first 29 rfl rfl (by kernel_rfl) rfl (qv_at (ev_pick_f rfl rfl)) ?_
              refine an_nil (by kernel_rfl) (fun _ _ => rfl) (sq_n (?_))
              refine w_if rfl (fun h6 => ?_) (fun h6 => ?_)
              · skip
                try simp only [Za, Zb, Zc, Zd, Ze, Zf, Zg, Zh] at h6
                refine w_seq (w_region (?_))
                refine o_ev (ev_assign rfl) rfl ?_
                refine o_nil (sq_n (w_ret (bk_r (sq_r (lq_r (bk_r (sq_r (?_))))))))
                refine res_intro (vs := [_]) Tryz.results14 (.inr rfl) (.cons (.tmp rfl) (.nil)) ?_
                refine ⟨_, by (repeat (first | exact Ka | refine Kb ?_ | refine Kc ?_ | refine Kf ?_ | refine Kd ?_ | refine Ke ?_ | refine Kh ?_ | refine Kg rfl ?_ | refine Ki ?_ | refine Kj ?_ | refine Kk ?_ | refine Kl ?_ | refine Km ?_ | refine Kn ?_ | refine Ko ?_)), ?_, rfl⟩
                have hne : q ≠ q2 := by
                  intro e
                  subst e
                  first
                    | exact absurd rfl (by assumption)
                    | contradiction
                rw [decide_eq_false]
                · rfl
                · rintro ⟨_, _, g3⟩
                  rw [g3, hq2] at hq
                  exact hne (Option.some.inj hq).symm
              · skip
                try simp only [Za, Zb, Zc, Zd, Ze, Zf, Zg, Zh] at h6
                refine w_skip (bk_n (sq_n (w_region (?_))))
                refine o_ev (ev_add rfl rfl (by omega)) rfl ?_
                refine o_ev (ev_move rfl) rfl ?_
                refine o_nil (?_)
                skip
                refine lq_n (i + 1) ?_ ?_ ?_ ?_
                · (try dsimp only)
                  refine ⟨by omega, hl, fun j hj => ?_⟩
                  rcases Nat.lt_or_eq_of_le (Nat.le_of_lt_succ hj) with h | rfl
                  · exact hall j h
                  · rw [hq, hq2, show q = q2 from Prod.ext (by assumption) (by assumption)]
                · (try dsimp only)
                  omega
                · repeat (first | exact Sub.nil | refine Sub.cons rfl ?_)
                · (try dsimp only)
                  (repeat (first | exact Ka | refine Kb ?_ | refine Kc ?_ | refine Kf ?_ | refine Kd ?_ | refine Ke ?_ | refine Kh ?_ | refine Kg rfl ?_ | refine Ki ?_ | refine Kj ?_ | refine Kk ?_ | refine Kl ?_ | refine Km ?_ | refine Kn ?_ | refine Ko ?_))
          · skip
            try simp only [Za, Zb, Zc, Zd, Ze, Zf, Zg, Zh] at h4
            obtain rfl : i = ps.length := by omega
            refine w_exit (sq_e (lq_e (bk_h (sq_n (w_seq (w_region (?_)))))))
            refine o_ev (ev_assign rfl) rfl ?_
            refine o_nil (sq_n (w_ret (?_)))
            refine res_intro (vs := [_]) Tryz.results14 (.inr rfl) (.cons (.tmp rfl) (.nil)) ?_
            exact ⟨_, by (repeat (first | exact Ka | refine Kb ?_ | refine Kc ?_ | refine Kf ?_ | refine Kd ?_ | refine Ke ?_ | refine Kh ?_ | refine Kg rfl ?_ | refine Ki ?_ | refine Kj ?_ | refine Kk ?_ | refine Kl ?_ | refine Km ?_ | refine Kn ?_ | refine Ko ?_)), by rw [decide_eq_true ⟨gF, gN, ext_below hl hall⟩]; rfl, rfl⟩
end Go.Sx
