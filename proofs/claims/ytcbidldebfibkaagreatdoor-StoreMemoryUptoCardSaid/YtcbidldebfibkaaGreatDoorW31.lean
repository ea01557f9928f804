import Derived.Test.YtcbidldebfibkaaGreatDoorW29
import Derived.Test.YtcbidldebfibkaaGreatDoorSxQ
set_option linter.unusedVariables false
set_option linter.unusedSimpArgs false
set_option linter.unusedSectionVars false
set_option linter.unnecessarySimpa false
namespace Go.Sx
open Go Go.Proofs
set_option maxRecDepth 100000
set_option linter.unusedSimpArgs false
set_option linter.unusedVariables false

section
variable {G : Base} {P : Program} {t : Tm} {H : Heap} {dst : Option Tmp} {ty : TypeId} {pos : String} {after : Array Edge} {g : Option (Nat × Bool)}
theorem ev_makeInterface {T E : TypeId} {x : Operand} {v : Value} [hT : Und P T (.pointer E)] (hx : evo t x = some v) : Ev G P ⟨dst, .makeInterface T x, ty, pos, after, g⟩ t H (.iface T v) :=
  fun ρ hρ w _ => by
    simp only [execOp, hρ _ _ hx, Instr.makeInterface, Sem.run_bind, run_und (T := T), Result.andThen_ok, Sem.run_pure]
theorem assert104 (v : Value) (W : World) : (Instr.typeAssert (.iface 104 v) 34 104 true).run Tryz.prog W = .ok (.tuple #[v, .bool true]) W := by kernel_rfl
theorem ev_assert104 {x : Operand} {v : Value} (hx : evo t x = some (.iface 104 v)) : Ev G Tryz.prog ⟨dst, .typeAssert x 34 104 true, ty, pos, after, g⟩ t H (.tuple #[v, .bool true]) :=
  fun ρ hρ w _ => by
    simp only [execOp, hρ _ _ hx, Sem.run_bind, assert104, Result.andThen_ok, Sem.run_pure]
end
/-! ## The engine, where the first piece is none -/
theorem cloneF {G : Base} {H : Heap} {s : SV} {fs : List FV} [Sl H s eF fs] (hne : fs ≠ []) (hn : fs.length ≤ 1000000000) : SC G Tryz.prog 98 [s.val] H (fun v H' => ∃ s' : SV, v = s'.val ∧ H' = Row s' eF fs :: H) := by
  refine SC.out (sc_walk Tryz.func98 rfl Tryz.ntmps98 (by kernel_rfl) (Nat.le_of_ble_eq_true rfl) ?_)
  refine w_seq (w_region (?_))
  refine o_ev (ev_assign rfl) rfl ?_
  refine o_nil (sq_n (w_seq (w_seq (w_region (?_)))))
  refine o_ev (ev_move rfl) rfl ?_
  refine o_ev (ev_eql_sl_val rfl hne) rfl ?_
  refine o_nil (sq_n (?_))
  refine w_if rfl (fun h1 => ?_) (fun h1 => ?_)
  · skip
    skip
    cases h1 -- DONE
  · skip
    skip
    refine w_skip (sq_n (w_seq (w_region (?_))))
    refine o_st (st_build0 eF rfl) rfl ?_
    rintro _ _ ⟨s1, rfl, rfl⟩
    refine o_ev (ev_move rfl) rfl ?_
    refine o_st (st_append rfl rfl rfl rfl (by simp only [List.length_nil]; omega) (by simp only [List.length_nil]; omega)) rfl ?_
    rintro _ _ ⟨s2, rfl, rfl⟩
    refine o_ev (ev_assign rfl) rfl ?_
    refine o_nil (sq_n (w_ret (?_)))
    refine res_intro (vs := [_]) Tryz.results98 (.inr rfl) (.cons (.tmp rfl) (.nil)) ?_
    rw [List.nil_append]
    exact ⟨_, by (repeat (first | exact Ka | refine Kb ?_ | refine Kc ?_ | refine Kf ?_ | refine Kd ?_ | refine Ke ?_ | refine Kh ?_ | refine Kg rfl ?_ | refine Ki ?_ | refine Kj ?_ | refine Kk ?_ | refine Kl ?_ | refine Km ?_ | refine Kn ?_ | refine Ko ?_)), s2, rfl, rfl⟩
theorem copyS {G : Base} {H : Heap} {s : SV} {fs : List FV} [Sl H s eF fs] (hne : fs ≠ []) (hn : fs.length ≤ 1000000000) : SC G Tryz.prog 58 [.agg [s.val].toArray] H (fun v H' => ∃ s' : SV, v = .agg [s'.val].toArray ∧ H' = Row s' eF fs :: H) := by
  refine SC.out (sc_walk Tryz.func58 rfl Tryz.ntmps58 (by kernel_rfl) (Nat.le_of_ble_eq_true rfl) ?_)
  refine w_seq (w_region (?_))
  refine o_st (st_box rfl) rfl ?_
  rintro _ _ ⟨b1, rfl, rfl⟩
  refine o_st (st_alloc) rfl ?_
  rintro _ _ ⟨b2, rfl, rfl⟩
  refine o_nil (sq_n (w_seq (w_region (?_))))
  refine o_ev (ev_fieldAddr rfl) rfl ?_
  refine o_ev (ev_load rfl) rfl ?_
  refine o_st (st_call (vs := [_]) rfl (cloneF hne hn)) rfl ?_
  rintro _ _ ⟨s1, rfl, rfl⟩
  refine o_ev (ev_build (vs := [(0, _)]) rfl) rfl ?_
  refine o_st (st_store rfl rfl rfl) rfl ?_
  rintro _ _ ⟨rfl, rfl⟩
  refine o_nil (sq_n (w_ret (?_)))
  refine res_intro (vs := [_]) Tryz.results58 (.inr rfl) (.cons ((.cell rfl rfl)) (.nil)) ?_
  exact ⟨_, by (repeat (first | exact Ka | refine Kb ?_ | refine Kc ?_ | refine Kf ?_ | refine Kd ?_ | refine Ke ?_ | refine Kh ?_ | refine Kg rfl ?_ | refine Ki ?_ | refine Kj ?_ | refine Kk ?_ | refine Kl ?_ | refine Km ?_ | refine Kn ?_ | refine Ko ?_)), s1, rfl, rfl⟩
theorem newEng {G : Base} {H : Heap} {s : SV} {fs : List FV} [hg : Glb G H] [Sl H s eF fs] (hc : chkS fs = true) : SC G Tryz.prog 92 [.agg [s.val].toArray] H (fun v H' => ∃ be, ∃ s' : SV, v = .tuple #[.pointer (some ⟨be, 0, none⟩), .nilIface] ∧ H' = Vr be [s'.val, .int .i64 0, SV.nil.val, SV.nil.val, .bool true] :: Row s' eF fs :: H) := by
  obtain ⟨⟨hl1, hl2⟩, hfl⟩ := chkS_get hc
  have hne : fs ≠ [] := by rintro rfl; simp at hl1
  refine SC.out (sc_walk Tryz.func92 rfl Tryz.ntmps92 (by kernel_rfl) (Nat.le_of_ble_eq_true rfl) ?_)
  refine w_seq (w_region (?_))
  refine o_st (st_box rfl) rfl ?_
  rintro _ _ ⟨b1, rfl, rfl⟩
  refine o_ev (ev_assign rfl) rfl ?_
  refine o_ev (ev_assign rfl) rfl ?_
  refine o_nil (sq_n (w_seq (w_seq (w_region (?_)))))
  refine o_ev (ev_loadS rfl) rfl ?_
  refine o_st (st_call (vs := [_]) rfl (sCheck (by omega) (fun f hf => by have := hfl f hf; omega))) rfl ?_
  rintro v1 H1 ⟨rfl, hK⟩
  rcases hK with ⟨hc', rfl⟩ | ⟨hc', rfl⟩
  · skip
    exfalso; rw [hc] at hc'; cases hc' -- DONE
  · skip
    refine o_ev (ev_assign rfl) rfl ?_
    refine o_nil (sq_n (w_seq (w_region (?_))))
    refine o_ev (ev_move rfl) rfl ?_
    refine o_ev (ev_neq_nil_nil rfl) rfl ?_
    refine o_nil (sq_n (?_))
    refine w_if_false rfl (w_skip (sq_n (w_seq (w_region (?_)))))
    refine o_ev (ev_loadS rfl) rfl ?_
    refine o_st (st_call (vs := [_]) rfl (copyS hne (by omega))) rfl ?_
    rintro _ _ ⟨s1, rfl, rfl⟩
    refine o_ev (ev_build (vs := [(0, _), (4, _)]) rfl) rfl ?_
    refine o_st (st_box rfl) rfl ?_
    rintro _ _ ⟨be, rfl, rfl⟩
    refine o_ev (ev_assign rfl) rfl ?_
    refine o_ev (ev_assign rfl) rfl ?_
    refine o_nil (sq_n (w_ret (?_)))
    refine res_intro (vs := [_, _]) Tryz.results92 (.inr rfl) (.cons (.tmp rfl) (.cons (.tmp rfl) (.nil))) ?_
    exact ⟨_, by (repeat (first | exact Ka | refine Kb ?_ | refine Kc ?_ | refine Kf ?_ | refine Kd ?_ | refine Ke ?_ | refine Kh ?_ | refine Kg rfl ?_ | refine Ki ?_ | refine Kj ?_ | refine Kk ?_ | refine Kl ?_ | refine Km ?_ | refine Kn ?_ | refine Ko ?_)), be, s1, rfl, rfl⟩

theorem segOpenBad {G : Base} {H : Heap} {s sf : SV} {fs : List FV} {xs : List Nat} [hg : Glb G H] [Tab H 26 zipT] [Tab H 24 sealT] [Sl H sf eF fs] [hs : Sl H s eB xs] (hc : chkS fs = true) (hr : rdImg 83 xs = none) (hn : xs.length ≤ 1000000000) (hb : ∀ x ∈ xs, x < 256) : SC G Tryz.prog 124 [.agg [sf.val].toArray, s.val] H (fun v H' => v = .tuple #[.pointer none, G.err 10] ∧ H' = H) := by
  obtain ⟨⟨hl1, hl2⟩, hfl⟩ := chkS_get hc
  refine SC.out (sc_walk Tryz.func124 rfl Tryz.ntmps124 (by kernel_rfl) (Nat.le_of_ble_eq_true rfl) ?_)
  refine w_seq (w_region (?_))
  refine o_st (st_box rfl) rfl ?_
  rintro _ _ ⟨b1, rfl, rfl⟩
  refine o_ev (ev_assign rfl) rfl ?_
  refine o_ev (ev_assign rfl) rfl ?_
  refine o_nil (sq_n (w_seq (w_seq (w_region (?_)))))
  refine o_ev (ev_loadS rfl) rfl ?_
  refine o_st (st_call (vs := [_]) rfl (sCheck (by omega) (fun f hf => by have := hfl f hf; omega))) rfl ?_
  rintro v1 H1 ⟨rfl, hK⟩
  rcases hK with ⟨hc', rfl⟩ | ⟨hc', rfl⟩
  · skip
    exfalso; rw [hc] at hc'; cases hc' -- DONE
  · skip
    refine o_ev (ev_assign rfl) rfl ?_
    refine o_nil (sq_n (w_seq (w_region (?_))))
    refine o_ev (ev_move rfl) rfl ?_
    refine o_ev (ev_neq_nil_nil rfl) rfl ?_
    refine o_nil (sq_n (?_))
    refine w_if_false rfl (w_skip (sq_n (w_seq (w_region (?_)))))
    refine o_ev (ev_move rfl) rfl ?_
    refine o_st (st_call (vs := [_, _]) rfl (fUnpack 83 (by decide) hn hb)) rfl ?_
    rintro v1 H1 hK
    rcases hK with ⟨he, rfl, e, rfl⟩ | ⟨bl, lb, F0, sbl, he, hB, rfl, rfl⟩
    · skip
      refine o_ev (ev_move rfl) rfl ?_
      refine o_ev (ev_extract1 rfl rfl) rfl ?_
      refine o_ev (ev_extract1 rfl rfl) rfl ?_
      refine o_ev (ev_assign rfl) rfl ?_
      refine o_ev (ev_assign rfl) rfl ?_
      refine o_nil (sq_n (w_seq (w_seq (w_region (?_)))))
      refine o_ev (ev_move rfl) rfl ?_
      refine o_ev (ev_neq_nil_val rfl) rfl ?_
      refine o_ev (ev_move rfl) rfl ?_
      refine o_off rfl rfl rfl ?_
      refine o_off rfl rfl rfl ?_
      refine o_off rfl rfl rfl ?_
      refine o_ev (ev_pick_t rfl rfl) rfl ?_
      refine o_nil (sq_n (?_))
      refine w_if_true rfl (w_seq (?_))
      refine w_still Tryz_mixed ?_
      refine an_first 0 rfl rfl (by kernel_rfl) rfl (qv_at (ev_load rfl)) ?_
      refine an_first 1 rfl rfl (by kernel_rfl) rfl (qv_at (ev_assign rfl)) ?_
      refine an_first 2 rfl rfl (by kernel_rfl) rfl (qv_at (ev_assign rfl)) ?_
      refine an_nil (by kernel_rfl) (fun _ _ => rfl) (sq_n (w_ret (sq_r (?_))))
      refine res_intro (vs := [_, _]) Tryz.results124 (.inr rfl) (.cons (.tmp rfl) (.cons (.tmp rfl) (.nil))) ?_
      exact ⟨_, by (repeat (first | exact Ka | refine Kb ?_ | refine Kc ?_ | refine Kf ?_ | refine Kd ?_ | refine Ke ?_ | refine Kh ?_ | refine Kg rfl ?_ | refine Ki ?_ | refine Kj ?_ | refine Kk ?_ | refine Kl ?_ | refine Km ?_ | refine Kn ?_ | refine Ko ?_)), rfl, rfl⟩
    · skip
      exfalso; rw [hr] at he; cases he -- DONE

theorem openBad {G : Base} {H : Heap} {be : Nat} {sf s1 s2 sh sw : SV} {fs : List FV} {xs : List Nat} {nx last : Int} {on : Bool} [hg : Glb G H] [Tab H 26 zipT] [Tab H 24 sealT] [he : HasV H be [sf.val, .int .i64 nx, sh.val, sw.val, .bool on]] [Sl H sf eF fs] [hs : Sl H s1 eB xs] (hc : chkS fs = true) (hr : rdImg 83 xs = none) (hn : xs.length ≤ 1000000000) (hb : ∀ x ∈ xs, x < 256) : SC G Tryz.prog 93 [.pointer (some ⟨be, 0, none⟩), .agg [s1.val, s2.val].toArray, .int .i64 last] H (fun v H' => v = .tuple #[.agg [.pointer none, .pointer none].toArray, G.err 10] ∧ H' = H) := by
  refine SC.out (sc_walk Tryz.func93 rfl Tryz.ntmps93 (by kernel_rfl) (Nat.le_of_ble_eq_true rfl) ?_)
  refine w_seq (w_region (?_))
  refine o_st (st_box rfl) rfl ?_
  rintro _ _ ⟨b1, rfl, rfl⟩
  refine o_st (st_alloc) rfl ?_
  rintro _ _ ⟨b2, rfl, rfl⟩
  refine o_ev (ev_assign rfl) rfl ?_
  refine o_nil (sq_n (w_seq (?_)))
  refine w_draw Tryz_mixed (fun i => [6].contains i) (fun k H => (k = 3 → HasV H be [sf.val, .int .i64 nx, sh.val, sw.val, .bool on]) ∧ (k = 5 → HasV H b1 [s1.val, s2.val])) ?_
  refine an_first 0 rfl rfl (by kernel_rfl) rfl (Qv.of_ev (fun H hH => ev_move rfl)) ?_
  refine an_first 1 rfl rfl (by kernel_rfl) rfl (Qv.of_ev (fun H hH => ev_nilCheck rfl)) ?_
  refine an_first 2 rfl rfl (by kernel_rfl) rfl (Qv.of_ev (fun H hH => ev_fieldAddr rfl)) ?_
  refine an_first 3 rfl rfl (by kernel_rfl) rfl (Qv.of_ev (fun H hH => by have hN := hH.1 rfl; exact ev_loadS rfl)) ?_
  refine an_first 4 rfl rfl (by kernel_rfl) rfl (Qv.of_ev (fun H hH => ev_fieldAddr rfl)) ?_
  refine an_first 5 rfl rfl (by kernel_rfl) rfl (Qv.of_ev (fun H hH => by have hN := hH.2 rfl; exact ev_load rfl)) ?_
  refine an_step 6 rfl (by kernel_rfl) rfl (fun k hk => ⟨fun hi => by subst hi; infer_instance, fun hi => by subst hi; infer_instance⟩) (st_call (vs := [_, _]) rfl (segOpenBad hc hr hn hb)) ?_
  rintro _ _ ⟨rfl, rfl⟩
  refine an_first 7 rfl rfl (by kernel_rfl) rfl (Qv.of_ev (fun H hH => ev_move rfl)) ?_
  refine an_first 8 rfl rfl (by kernel_rfl) rfl (Qv.of_ev (fun H hH => ev_extract1 rfl rfl)) ?_
  refine an_first 9 rfl rfl (by kernel_rfl) rfl (Qv.of_ev (fun H hH => ev_extract1 rfl rfl)) ?_
  refine an_first 10 rfl rfl (by kernel_rfl) rfl (Qv.of_ev (fun H hH => ev_assign rfl)) ?_
  refine an_first 11 rfl rfl (by kernel_rfl) rfl (Qv.of_ev (fun H hH => ev_assign rfl)) ?_
  refine an_nil (by kernel_rfl) (fun k hk => ⟨fun hi => absurd hk (by subst hi; exact not_live (by kernel_rfl)), fun hi => absurd hk (by subst hi; exact not_live (by kernel_rfl))⟩) (sq_n (w_seq (w_seq (w_region (?_)))))
  refine o_ev (ev_move rfl) rfl ?_
  refine o_ev (ev_neq_nil_val rfl) rfl ?_
  refine o_nil (sq_n (?_))
  refine w_if rfl (fun h1 => ?_) (fun h1 => ?_)
  · skip
    skip
    refine w_seq (?_)
    refine w_draw Tryz_mixed (fun i => [2].contains i) (fun k H => (k = 1 → HasV H 10 [G.err 10])) ?_
    refine an_first 0 rfl rfl (by kernel_rfl) rfl (Qv.of_ev (fun H hH => ev_build (vs := []) rfl)) ?_
    refine an_first 1 rfl rfl (by kernel_rfl) rfl (Qv.of_ev (fun H hH => by have hN := hH rfl; exact ev_load rfl)) ?_
    refine an_step 2 rfl (by kernel_rfl) rfl (fun k hk => fun hi => by subst hi; infer_instance) (st_store rfl rfl rfl) ?_
    rintro _ _ ⟨rfl, rfl⟩
    refine an_first 3 rfl rfl (by kernel_rfl) rfl (Qv.of_ev (fun H hH => ev_assign rfl)) ?_
    refine an_nil (by kernel_rfl) (fun k hk => fun hi => by subst hi; infer_instance) (sq_n (w_ret (sq_r (?_))))
    refine res_intro (vs := [_, _]) Tryz.results93 (.inr rfl) (.cons ((.cell rfl rfl)) (.cons (.tmp rfl) (.nil))) ?_
    exact ⟨_, by (repeat (first | exact Ka | refine Kb ?_ | refine Kc ?_ | refine Kf ?_ | refine Kd ?_ | refine Ke ?_ | refine Kh ?_ | refine Kg rfl ?_ | refine Ki ?_ | refine Kj ?_ | refine Kk ?_ | refine Kl ?_ | refine Km ?_ | refine Kn ?_ | refine Ko ?_)), rfl, rfl⟩
  · skip
    skip
    cases h1 -- DONE

theorem fromBad {G : Base} {H : Heap} {sf sp : SV} {fs : List FV} {lp : List (SV × SV)} {n : Int} {p : SV × SV} {xs : List Nat} [hg : Glb G H] [Tab H 26 zipT] [Tab H 24 sealT] [Sl H sf eF fs] [hsp : Sl H sp eP lp] (hc : chkS fs = true) (h0 : 0 ≤ n) (h1 : n ≤ 1099511627776) (hp : lp[0]? = some p) (hs : Sl H p.1 eB xs) (hr : rdImg 83 xs = none) (hn : xs.length ≤ 1000000000) (hb : ∀ x ∈ xs, x < 256) :
    SC G Tryz.prog 56 [.agg [sf.val, .int .i64 n, sp.val].toArray] H (fun v H' => ∃ bp, v = .tuple #[.pointer none, .iface 104 (.pointer (some ⟨bp, 0, none⟩))] ∧ H' = Vr bp [.int .i64 0, G.err 10] :: H) := by
  have hl0 := (List.getElem?_eq_some_iff.1 hp).1
  refine SC.out (sc_walk Tryz.func56 rfl Tryz.ntmps56 (by kernel_rfl) (Nat.le_of_ble_eq_true rfl) ?_)
  refine w_seq (w_region (?_))
  refine o_st (st_box rfl) rfl ?_
  rintro _ _ ⟨b1, rfl, rfl⟩
  refine o_ev (ev_assign rfl) rfl ?_
  refine o_ev (ev_assign rfl) rfl ?_
  refine o_nil (sq_n (w_seq (w_region (?_))))
  refine o_ev (ev_fieldAddr rfl) rfl ?_
  refine o_ev (ev_loadS rfl) rfl ?_
  refine o_st (st_call (vs := [_]) rfl (newEng hc)) rfl ?_
  rintro _ _ ⟨be, s1, rfl, rfl⟩
  · skip
    refine o_ev (ev_move rfl) rfl ?_
    refine o_ev (ev_extract1 rfl rfl) rfl ?_
    refine o_ev (ev_extract1 rfl rfl) rfl ?_
    refine o_ev (ev_assign rfl) rfl ?_
    refine o_ev (ev_assign rfl) rfl ?_
    refine o_nil (sq_n (w_seq (w_seq (w_region (?_)))))
    refine o_ev (ev_move rfl) rfl ?_
    refine o_ev (ev_neq_nil_nil rfl) rfl ?_
    refine o_nil (sq_n (?_))
    refine w_if_false rfl (w_skip (sq_n (w_seq (w_seq (w_region (?_))))))
    refine o_ev (ev_fieldAddr rfl) rfl ?_
    refine o_ev (ev_load rfl) rfl ?_
    refine o_ev (ev_lss rfl rfl) rfl ?_
    refine o_split (ev_move rfl) rfl (fun h1 => ?_) (fun h1 => ?_)
    · skip
      try simp only [Za, Zb, Zc, Zd, Ze, Zf, Zg, Zh] at h1
      exfalso; omega -- DONE
    · skip
      try simp only [Za, Zb, Zc, Zd, Ze, Zf, Zg, Zh] at h1
      refine o_on_ev rfl rfl rfl (ev_fieldAddr rfl) ?_
      refine o_on_ev rfl rfl rfl (ev_load rfl) ?_
      refine o_on_ev rfl rfl rfl (ev_gtr rfl rfl) ?_
      refine o_ev (ev_pick_f rfl rfl) rfl ?_
      refine o_nil (sq_n (?_))
      refine w_if rfl (fun h2 => ?_) (fun h2 => ?_)
      · skip
        try simp only [Za, Zb, Zc, Zd, Ze, Zf, Zg, Zh] at h2
        exfalso; omega -- DONE
      · skip
        try simp only [Za, Zb, Zc, Zd, Ze, Zf, Zg, Zh] at h2
        refine w_skip (sq_n (w_seq (w_region (?_))))
        refine o_ev (ev_move rfl) rfl ?_
        refine o_ev (ev_fieldAddr rfl) rfl ?_
        refine o_ev (ev_load rfl) rfl ?_
        refine o_ev (ev_nilCheck rfl) rfl ?_
        refine o_ev (ev_fieldAddr rfl) rfl ?_
        refine o_st (st_store rfl rfl rfl) rfl ?_
        rintro _ _ ⟨rfl, rfl⟩
        refine o_nil (sq_n (w_seq (w_region (?_))))
        refine o_ev (ev_assign rfl) rfl ?_
        refine o_nil (sq_n (w_seq (w_seq (w_region (?_)))))
        refine o_ev (ev_fieldAddr rfl) rfl ?_
        refine o_ev (ev_load rfl) rfl ?_
        refine o_ev (ev_len1 rfl) rfl ?_
        refine o_ev (ev_move rfl) rfl ?_
        refine o_nil (sq_n (w_block (?_)))
        refine w_loop (Unit) (fun _ => True) (fun _ => [(4, .pointer (some ⟨be, 0, none⟩)), (6, .int .i64 (-1)), (36, sp.val), (37, .int .i64 ((lp.length : Nat) : Int)), (38, .int .i64 0)]) (fun _ => Vr be [s1.val, .int .i64 n, SV.nil.val, SV.nil.val, .bool true] :: Row s1 eF fs :: H) (fun _ => 0) (()) ?_ ?_ ?_ ?_
        · (try dsimp only)
          skip
        · repeat (first | exact Sub.nil | refine Sub.cons rfl ?_)
        · (try dsimp only)
          (repeat (first | exact Ka | refine Kb ?_ | refine Kc ?_ | refine Kf ?_ | refine Kd ?_ | refine Ke ?_ | refine Kh ?_ | refine Kg rfl ?_ | refine Ki ?_ | refine Kj ?_ | refine Kk ?_ | refine Kl ?_ | refine Km ?_ | refine Kn ?_ | refine Ko ?_))
        · rintro _ _
          (try dsimp only at *)
          refine w_seq (w_region (?_))
          refine o_ev (ev_lss rfl rfl) rfl ?_
          refine o_nil (sq_n (w_seq (?_)))
          refine w_if rfl (fun h3 => ?_) (fun h3 => ?_)
          · skip
            try simp only [Za, Zb, Zc, Zd, Ze, Zf, Zg, Zh] at h3
            skip
            refine w_skip (sq_n (w_seq (w_block (w_seq (w_region (?_))))))
            refine o_ev (ev_move rfl) rfl ?_
            refine o_ev (ev_indexAddr rfl rfl 0 rfl (by omega)) rfl ?_
            refine o_ev (ev_loadS_el rfl (by rfl) (by rfl) p hp) rfl ?_
            refine o_st (st_alloc) rfl ?_
            rintro _ _ ⟨b2, rfl, rfl⟩
            refine o_ev (ev_assign rfl) rfl ?_
            refine o_st (st_store rfl rfl rfl) rfl ?_
            rintro _ _ ⟨rfl, rfl⟩
            refine o_nil (sq_n (w_seq (w_region (?_))))
            refine o_ev (ev_move rfl) rfl ?_
            refine o_ev (ev_loadS rfl) rfl ?_
            refine o_ev (ev_move rfl) rfl ?_
            refine o_st (st_call (vs := [_, _, _]) rfl (openBad (fs := fs) (xs := xs) (sh := SV.nil) (sw := SV.nil) (on := true) hc hr hn hb)) rfl ?_
            rintro _ _ ⟨rfl, rfl⟩
            · skip
              refine o_ev (ev_move rfl) rfl ?_
              refine o_ev (ev_extract1 rfl rfl) rfl ?_
              refine o_ev (ev_extract1 rfl rfl) rfl ?_
              refine o_st (st_alloc) rfl ?_
              rintro _ _ ⟨b3, rfl, rfl⟩
              refine o_st (st_store rfl rfl rfl) rfl ?_
              rintro _ _ ⟨rfl, rfl⟩
              refine o_ev (ev_assign rfl) rfl ?_
              refine o_nil (sq_n (w_seq (w_seq (w_region (?_)))))
              refine o_ev (ev_move rfl) rfl ?_
              refine o_ev (ev_neq_nil_val rfl) rfl ?_
              refine o_nil (sq_n (?_))
              refine w_if_true rfl (w_seq (w_region (?_)))
              refine o_ev (ev_move rfl) rfl ?_
              refine o_ev (ev_move rfl) rfl ?_
              refine o_ev (ev_build (vs := [(0, _), (1, _)]) rfl) rfl ?_
              refine o_st (st_box rfl) rfl ?_
              rintro _ _ ⟨bp, rfl, rfl⟩
              refine o_ev (ev_makeInterface rfl) rfl ?_
              refine o_ev (ev_assign rfl) rfl ?_
              refine o_ev (ev_assign rfl) rfl ?_
              refine o_nil (sq_n (w_ret (sq_r (bk_r (sq_r (lq_r (bk_r (sq_r (?_)))))))))
              refine res_intro (vs := [_, _]) Tryz.results56 (.inr rfl) (.cons (.tmp rfl) (.cons (.tmp rfl) (.nil))) ?_
              exact ⟨_, by (repeat (first | exact Ka | refine Kb ?_ | refine Kc ?_ | refine Kf ?_ | refine Kd ?_ | refine Ke ?_ | refine Kh ?_ | refine Kg rfl ?_ | refine Ki ?_ | refine Kj ?_ | refine Kk ?_ | refine Kl ?_ | refine Km ?_ | refine Kn ?_ | refine Ko ?_)), bp, rfl, rfl⟩
          · skip
            try simp only [Za, Zb, Zc, Zd, Ze, Zf, Zg, Zh] at h3
            exfalso; omega -- DONE
end Go.Sx
namespace Go.Sx
open Go Go.Proofs
set_option maxRecDepth 100000
set_option linter.unusedSimpArgs false
set_option linter.unusedVariables false

theorem loadErr {G : Base} {H : Heap} {s : SV} {xs : List Nat} [hg : Glb G H] [Tab H 26 zipT] [Tab H 24 sealT] [hs : Sl H s eB xs] (hn : xs.length ≤ 1000000000) (hb : ∀ x ∈ xs, x < 256) (hu : unE xs = none) : SC G Tryz.prog 27 [s.val] H (fun v H' => v = .tuple #[.pointer none, G.err 10] ∧ H' = H) := by
  refine SC.out (sc_walk Tryz.func27 rfl Tryz.ntmps27 (by kernel_rfl) (Nat.le_of_ble_eq_true rfl) ?_)
  refine w_seq (w_region (?_))
  refine o_ev (ev_assign rfl) rfl ?_
  refine o_ev (ev_assign rfl) rfl ?_
  refine o_nil (sq_n (w_seq (w_region (?_))))
  refine o_ev (ev_move rfl) rfl ?_
  refine o_st (st_call (vs := [_]) rfl (stUnpack hn hb)) rfl ?_
  rintro v1 H1 hK
  rcases hK with ⟨_, rfl, rfl⟩ | ⟨fs, n, ps, lp, F, sf, sp, he, hP, rfl, rfl⟩
  · skip
    refine o_ev (ev_move rfl) rfl ?_
    refine o_ev (ev_extract1 rfl rfl) rfl ?_
    refine o_ev (ev_extract1 rfl rfl) rfl ?_
    refine o_st (st_alloc) rfl ?_
    rintro _ _ ⟨b1, rfl, rfl⟩
    refine o_st (st_store rfl rfl rfl) rfl ?_
    rintro _ _ ⟨rfl, rfl⟩
    refine o_ev (ev_assign rfl) rfl ?_
    refine o_nil (sq_n (w_seq (w_seq (w_region (?_)))))
    refine o_ev (ev_move rfl) rfl ?_
    refine o_ev (ev_neq_nil_val rfl) rfl ?_
    refine o_nil (sq_n (?_))
    refine w_if_true rfl (w_seq (w_region (?_)))
    refine o_ev (ev_move rfl) rfl ?_
    refine o_ev (ev_assign rfl) rfl ?_
    refine o_ev (ev_assign rfl) rfl ?_
    refine o_nil (sq_n (w_ret (sq_r (?_))))
    refine res_intro (vs := [_, _]) Tryz.results27 (.inr rfl) (.cons (.tmp rfl) (.cons (.tmp rfl) (.nil))) ?_
    exact ⟨_, by (repeat (first | exact Ka | refine Kb ?_ | refine Kc ?_ | refine Kf ?_ | refine Kd ?_ | refine Ke ?_ | refine Kh ?_ | refine Kg rfl ?_ | refine Ki ?_ | refine Kj ?_ | refine Kk ?_ | refine Kl ?_ | refine Km ?_ | refine Kn ?_ | refine Ko ?_)), rfl, rfl⟩
  · skip
    exfalso; rw [hu] at he; cases he -- DONE
theorem loadBad {G : Base} {H : Heap} {s : SV} {xs : List Nat} {fs : List FV} {n : Nat} {ps : Pcs} {q : List Nat × List Int} [hg : Glb G H] [Tab H 26 zipT] [Tab H 24 sealT] [hs : Sl H s eB xs] (hn : xs.length ≤ 1000000000) (hb : ∀ x ∈ xs, x < 256) (hu : unE xs = some (fs, n, ps)) (hc : chkS fs = true) (hnx : n ≤ 1099511627776) (hq : ps[0]? = some q) (hr : rdImg 83 q.1 = none) (hql : q.1.length ≤ 1000000000) (hqb : ∀ x ∈ q.1, x < 256) :
    SC G Tryz.prog 27 [s.val] H (fun v H' => ∃ bp, v = .tuple #[.pointer none, .iface 104 (.pointer (some ⟨bp, 0, none⟩))] ∧ H' = Vr bp [.int .i64 0, G.err 10] :: H) := by
  refine SC.out (sc_walk Tryz.func27 rfl Tryz.ntmps27 (by kernel_rfl) (Nat.le_of_ble_eq_true rfl) ?_)
  refine w_seq (w_region (?_))
  refine o_ev (ev_assign rfl) rfl ?_
  refine o_ev (ev_assign rfl) rfl ?_
  refine o_nil (sq_n (w_seq (w_region (?_))))
  refine o_ev (ev_move rfl) rfl ?_
  refine o_st (st_call (vs := [_]) rfl (stUnpack hn hb)) rfl ?_
  rintro v1 H1 hK
  rcases hK with ⟨he, rfl, rfl⟩ | ⟨fs', n', ps', lp, F, sf, sp, he, hP, rfl, rfl⟩
  · skip
    exfalso; rw [hu] at he; cases he -- DONE
  · skip
    rw [hu] at he
    simp only [Option.some.injEq, Prod.mk.injEq] at he
    obtain ⟨rfl, rfl, rfl⟩ := he
    obtain ⟨p, hp⟩ : ∃ p, lp[0]? = some p := by
      have h0 := (List.getElem?_eq_some_iff.1 hq).1
      exact ⟨_, List.getElem?_eq_getElem (by rw [hP.1]; exact h0)⟩
    obtain ⟨hS1, hS2⟩ := hP.2 0 p q hp hq
    refine o_ev (ev_move rfl) rfl ?_
    refine o_ev (ev_extract1 rfl rfl) rfl ?_
    refine o_ev (ev_extract1 rfl rfl) rfl ?_
    refine o_st (st_alloc) rfl ?_
    rintro _ _ ⟨b1, rfl, rfl⟩
    refine o_st (st_store rfl rfl rfl) rfl ?_
    rintro _ _ ⟨rfl, rfl⟩
    refine o_ev (ev_assign rfl) rfl ?_
    refine o_nil (sq_n (w_seq (w_seq (w_region (?_)))))
    refine o_ev (ev_move rfl) rfl ?_
    refine o_ev (ev_neq_nil_nil rfl) rfl ?_
    refine o_nil (sq_n (?_))
    refine w_if_false rfl (w_skip (sq_n (w_seq (w_region (?_)))))
    refine o_ev (ev_loadS rfl) rfl ?_
    refine o_st (st_call (vs := [_]) rfl (fromBad (fs := fs) (lp := lp) (p := p) (xs := q.1) hc (by omega) (by omega) hp inferInstance hr hql hqb)) rfl ?_
    rintro _ _ ⟨bp, rfl, rfl⟩
    refine o_ev (ev_extract1 rfl rfl) rfl ?_
    refine o_ev (ev_extract1 rfl rfl) rfl ?_
    refine o_ev (ev_assign rfl) rfl ?_
    refine o_ev (ev_assign rfl) rfl ?_
    refine o_nil (sq_n (w_ret (?_)))
    refine res_intro (vs := [_, _]) Tryz.results27 (.inr rfl) (.cons (.tmp rfl) (.cons (.tmp rfl) (.nil))) ?_
    exact ⟨_, by (repeat (first | exact Ka | refine Kb ?_ | refine Kc ?_ | refine Kf ?_ | refine Kd ?_ | refine Ke ?_ | refine Kh ?_ | refine Kg rfl ?_ | refine Ki ?_ | refine Kj ?_ | refine Kk ?_ | refine Kl ?_ | refine Km ?_ | refine Kn ?_ | refine Ko ?_)), bp, rfl, rfl⟩

theorem refErr {G : Base} {H : Heap} {s : SV} {xs : List Nat} [hg : Glb G H] [ErrT G] [Tab H 26 zipT] [Tab H 24 sealT] [hs : Sl H s eB xs] (hn : xs.length ≤ 1000000000) (hb : ∀ x ∈ xs, x < 256) (hu : unE xs = none) : SC G Tryz.prog 24 [s.val, .int .i64 (-1), .int .i64 10] H (fun v H' => v = .bool true ∧ H' = H) := by
  refine SC.out (sc_walk Tryz.func24 rfl Tryz.ntmps24 (by kernel_rfl) (Nat.le_of_ble_eq_true rfl) ?_)
  refine w_seq (w_region (?_))
  refine o_ev (ev_assign rfl) rfl ?_
  refine o_nil (sq_n (w_seq (w_region (?_))))
  refine o_ev (ev_move rfl) rfl ?_
  refine o_st (st_call (vs := [_]) rfl (loadErr hn hb hu)) rfl ?_
  rintro _ _ ⟨rfl, rfl⟩
  · skip
    refine o_ev (ev_move rfl) rfl ?_
    refine o_ev (ev_extract1 rfl rfl) rfl ?_
    refine o_ev (ev_extract1 rfl rfl) rfl ?_
    refine o_ev (ev_assign rfl) rfl ?_
    refine o_ev (ev_assign rfl) rfl ?_
    refine o_nil (sq_n (w_seq (w_seq (w_region (?_)))))
    refine o_ev (ev_move rfl) rfl ?_
    refine o_ev (ev_neq_ptr_nil rfl) rfl ?_
    refine o_ev (ev_move rfl) rfl ?_
    refine o_on_ev rfl rfl rfl (ev_move rfl) ?_
    refine o_on_ev rfl rfl rfl (ev_eql_nil_val rfl) ?_
    refine o_ev (ev_pick_f rfl rfl) rfl ?_
    refine o_nil (sq_n (?_))
    refine w_if_false rfl (w_skip (sq_n (w_seq (w_seq (w_region (?_))))))
    refine o_ev (ev_move rfl) rfl ?_
    refine o_ev (ev_lss rfl rfl) rfl ?_
    refine o_nil (sq_n (?_))
    refine w_if rfl (fun h1 => ?_) (fun h1 => ?_)
    · skip
      try simp only [Za, Zb, Zc, Zd, Ze, Zf, Zg, Zh] at h1
      refine w_seq (w_region (?_))
      refine o_ev (ev_move rfl) rfl ?_
      refine o_st (st_call (vs := [_]) rfl (numErr 10)) rfl ?_
      rintro _ _ ⟨rfl, rfl⟩
      refine o_ev (ev_move rfl) rfl ?_
      refine o_ev (ev_eql rfl rfl) rfl ?_
      refine o_ev (ev_assign rfl) rfl ?_
      refine o_nil (sq_n (w_ret (sq_r (?_))))
      refine res_intro (vs := [_]) Tryz.results24 (.inr rfl) (.cons (.tmp rfl) (.nil)) ?_
      exact ⟨_, by (repeat (first | exact Ka | refine Kb ?_ | refine Kc ?_ | refine Kf ?_ | refine Kd ?_ | refine Ke ?_ | refine Kh ?_ | refine Kg rfl ?_ | refine Ki ?_ | refine Kj ?_ | refine Kk ?_ | refine Kl ?_ | refine Km ?_ | refine Kn ?_ | refine Ko ?_)), rfl, rfl⟩
    · skip
      try simp only [Za, Zb, Zc, Zd, Ze, Zf, Zg, Zh] at h1
      exfalso; omega -- DONE
theorem refBad {G : Base} {H : Heap} {s : SV} {xs : List Nat} {fs : List FV} {n : Nat} {ps : Pcs} {q : List Nat × List Int} [hg : Glb G H] [ErrT G] [Tab H 26 zipT] [Tab H 24 sealT] [hs : Sl H s eB xs] (hn : xs.length ≤ 1000000000) (hb : ∀ x ∈ xs, x < 256) (hu : unE xs = some (fs, n, ps)) (hc : chkS fs = true) (hnx : n ≤ 1099511627776) (hq : ps[0]? = some q) (hr : rdImg 83 q.1 = none) (hql : q.1.length ≤ 1000000000) (hqb : ∀ x ∈ q.1, x < 256) :
    SC G Tryz.prog 24 [s.val, .int .i64 0, .int .i64 10] H (fun v H' => v = .bool true ∧ H' = H) := by
  refine SC.out (sc_walk Tryz.func24 rfl Tryz.ntmps24 (by kernel_rfl) (Nat.le_of_ble_eq_true rfl) ?_)
  refine w_seq (w_region (?_))
  refine o_ev (ev_assign rfl) rfl ?_
  refine o_nil (sq_n (w_seq (w_region (?_))))
  refine o_ev (ev_move rfl) rfl ?_
  refine o_st (st_call (vs := [_]) rfl (loadBad hn hb hu hc hnx hq hr hql hqb)) rfl ?_
  rintro _ _ ⟨bp, rfl, rfl⟩
  · skip
    refine o_ev (ev_move rfl) rfl ?_
    refine o_ev (ev_extract1 rfl rfl) rfl ?_
    refine o_ev (ev_extract1 rfl rfl) rfl ?_
    refine o_ev (ev_assign rfl) rfl ?_
    refine o_ev (ev_assign rfl) rfl ?_
    refine o_nil (sq_n (w_seq (w_seq (w_region (?_)))))
    refine o_ev (ev_move rfl) rfl ?_
    refine o_ev (ev_neq_ptr_nil rfl) rfl ?_
    refine o_ev (ev_move rfl) rfl ?_
    refine o_on_ev rfl rfl rfl (ev_move rfl) ?_
    refine o_on_ev rfl rfl rfl (ev_eql_nil_val rfl) ?_
    refine o_ev (ev_pick_f rfl rfl) rfl ?_
    refine o_nil (sq_n (?_))
    refine w_if_false rfl (w_skip (sq_n (w_seq (w_seq (w_region (?_))))))
    refine o_ev (ev_move rfl) rfl ?_
    refine o_ev (ev_lss rfl rfl) rfl ?_
    refine o_nil (sq_n (?_))
    refine w_if rfl (fun h1 => ?_) (fun h1 => ?_)
    · skip
      try simp only [Za, Zb, Zc, Zd, Ze, Zf, Zg, Zh] at h1
      exfalso; omega -- DONE
    · skip
      try simp only [Za, Zb, Zc, Zd, Ze, Zf, Zg, Zh] at h1
      refine w_skip (sq_n (w_seq (w_region (?_))))
      refine o_ev (ev_move rfl) rfl ?_
      refine o_ev (ev_assert104 rfl) rfl ?_
      refine o_ev (ev_move rfl) rfl ?_
      refine o_ev (ev_extract1 rfl rfl) rfl ?_
      refine o_ev (ev_extract1 rfl rfl) rfl ?_
      refine o_ev (ev_assign rfl) rfl ?_
      refine o_ev (ev_assign rfl) rfl ?_
      refine o_nil (sq_n (w_seq (w_region (?_))))
      refine o_ev (ev_move rfl) rfl ?_
      refine o_split (ev_move rfl) rfl (fun h2 => ?_) (fun h2 => ?_)
      · skip
        skip
        refine o_on_ev rfl rfl rfl (ev_move rfl) ?_
        refine o_on_ev rfl rfl rfl (ev_neq_ptr_nil rfl) ?_
        refine o_ev (ev_pick_t rfl rfl) rfl ?_
        refine o_split (ev_move rfl) rfl (fun h3 => ?_) (fun h3 => ?_)
        · skip
          skip
          refine o_on_ev rfl rfl rfl (ev_move rfl) ?_
          refine o_on_ev rfl rfl rfl (ev_nilCheck rfl) ?_
          refine o_on_ev rfl rfl rfl (ev_fieldAddr rfl) ?_
          refine o_on_ev rfl rfl rfl (ev_load rfl) ?_
          refine o_on_ev rfl rfl rfl (ev_move rfl) ?_
          refine o_on_ev rfl rfl rfl (ev_eql rfl rfl) ?_
          refine o_ev (ev_pick_t rfl rfl) rfl ?_
          refine o_split (ev_move rfl) rfl (fun h4 => ?_) (fun h4 => ?_)
          · skip
            skip
            refine o_on_ev rfl rfl rfl (ev_move rfl) ?_
            refine o_on_ev rfl rfl rfl (ev_nilCheck rfl) ?_
            refine o_on_ev rfl rfl rfl (ev_fieldAddr rfl) ?_
            refine o_on_ev rfl rfl rfl (ev_load rfl) ?_
            refine o_on rfl rfl rfl (st_call (vs := [_]) rfl (numErr 10)) ?_
            rintro _ _ ⟨rfl, rfl⟩
            refine o_on_ev rfl rfl rfl (ev_move rfl) ?_
            refine o_on_ev rfl rfl rfl (ev_eql rfl rfl) ?_
            refine o_ev (ev_pick_t rfl rfl) rfl ?_
            refine o_ev (ev_assign rfl) rfl ?_
            refine o_nil (sq_n (w_ret (?_)))
            refine res_intro (vs := [_]) Tryz.results24 (.inr rfl) (.cons (.tmp rfl) (.nil)) ?_
            exact ⟨_, by (repeat (first | exact Ka | refine Kb ?_ | refine Kc ?_ | refine Kf ?_ | refine Kd ?_ | refine Ke ?_ | refine Kh ?_ | refine Kg rfl ?_ | refine Ki ?_ | refine Kj ?_ | refine Kk ?_ | refine Kl ?_ | refine Km ?_ | refine Kn ?_ | refine Ko ?_)), rfl, rfl⟩
          · skip
            skip
            exact absurd h4 (by decide) -- DONE
        · skip
          skip
          cases h3 -- DONE
      · skip
        skip
        cases h2 -- DONE

/-! ## The calls whose answers the document fixes -/
theorem small_chk : chkS smallF = true := by decide +kernel
theorem pack_len {fs : List FV} {next : Int} {ps : Pcs} {img : List Nat} (hk : OkPs ps) (hn : ps.length ≤ 1000000000) (h : packE fs next ps = .ok img) : img.length ≤ psLen ps + 1200 ∧ ∀ x ∈ img, x < 256 := by
  rw [packE] at h
  split at h
  · cases h
  · rename_i hc
    simp only [Bool.not_eq_false] at hc
    split at h
    · cases h
    · rename_i hx
      split at h
      · cases h
      · rename_i bl hp
        simp only [Except.ok.injEq] at h
        subst h
        obtain ⟨q1, q2, q3⟩ := packPs_ok ps bl hk hp
        obtain ⟨m1, m2⟩ := packPs_len ps bl hk hp
        have hes := encS_len hc
        have hun := uv_len10 (n := next.toNat) (by omega)
        have hu1 := uv_len10 (n := (encS fs).length) (by omega)
        have hu2 := uv_len10 (n := (uv next.toNat).length) (by omega)
        have hu3 := uv_len10 (n := ((1, encS fs) :: (2, uv next.toNat) :: bl).length) (by simp only [List.length_cons]; omega)
        have hall : ∀ q ∈ (1, encS fs) :: (2, uv next.toNat) :: bl, q.1 < 256 ∧ ∀ x ∈ q.2, x < 256 := by
          intro q hq
          rcases List.mem_cons.1 hq with rfl | hq
          · exact ⟨by simp, encS_lt hc⟩
          · rcases List.mem_cons.1 hq with rfl | hq
            · exact ⟨by simp, uv_lt _⟩
            · exact ⟨(q3 q hq).2.1, (q3 q hq).2.2.1⟩
        refine ⟨?_, ?_⟩
        · rw [imgP_len, show encAll ((1, encS fs) :: (2, uv next.toNat) :: bl) = encB 1 (encS fs) ++ (encB 2 (uv next.toNat) ++ encAll bl) by simp [encAll], List.length_append, List.length_append, encB_len, encB_len]
          omega
        · intro x hx
          rcases List.mem_append.1 hx with hx | hx
          · exact imgQ_lt (by decide) hall x hx
          · exact w32_lt _ x hx
theorem small_ok : OkPs smallPs := by
  intro p hp
  simp only [smallPs, List.mem_singleton] at hp
  subst hp
  refine ⟨fun x hx => ?_, by simp, fun x hx => ?_, by simp⟩
  · simp at hx; omega
  · simp at hx; omega
theorem small_pack : ∃ img, packE smallF 300 smallPs = .ok img := ⟨_, by rw [packE, if_neg (by rw [small_chk]; simp), if_neg (by omega)]; rfl⟩
theorem small_neg : packE smallF (-1) smallPs = .error 1 := by rw [packE, if_neg (by rw [small_chk]; simp), if_pos (by omega)]
theorem small_names : ∀ f ∈ smallF, f.name.size ≤ 1000000000000 := by
  intro f hf
  simp only [smallF, List.mem_singleton] at hf
  subst hf
  decide
theorem small_len : psLen smallPs ≤ 900000000 := by decide
theorem small_one : rdImg 83 [120] = none := by rw [rdImg, if_pos (by simp)]

theorem fixedOk {G : Base} {H : Heap} [hg : Glb G H] [ErrT G] [Tab H 26 zipT] [Tab H 24 sealT] : SC G Tryz.prog 8 [] H (fun v H' => v = .bool true ∧ H' = H) := by
  obtain ⟨img, himg⟩ := small_pack
  obtain ⟨hu, _, _, _⟩ := un_pack small_ok (by decide) himg
  obtain ⟨hil, hib⟩ := pack_len small_ok (by decide) himg
  have hil : img.length ≤ 1000000000 := by have := small_len; omega
  refine SC.out (sc_walk Tryz.func8 rfl Tryz.ntmps8 (by kernel_rfl) (Nat.le_of_ble_eq_true rfl) ?_)
  refine w_seq (w_region (?_))
  refine o_ev (ev_assign rfl) rfl ?_
  refine o_nil (sq_n (w_seq (w_region (?_))))
  refine o_st (st_call (vs := []) rfl (smallIx)) rfl ?_
  rintro _ _ ⟨lp1, F1, sf1, sp1, hP1, rfl, rfl⟩
  refine o_st (st_call (vs := [_]) rfl (stPack (ps := smallPs) (hP1.ext (fun _ _ h => inferInstance) (fun _ _ h => inferInstance)) small_ok (by decide) small_names (by decide) small_len)) rfl ?_
  rintro v1 H1 hK
  rcases hK with ⟨e, he, _⟩ | ⟨img', s1, he, rfl, rfl⟩
  · skip
    exfalso; rw [himg] at he; cases he -- DONE
  · skip
    rw [himg] at he
    obtain rfl := Except.ok.inj he
    refine o_ev (ev_move rfl) rfl ?_
    refine o_ev (ev_extract1 rfl rfl) rfl ?_
    refine o_ev (ev_extract1 rfl rfl) rfl ?_
    refine o_ev (ev_assign rfl) rfl ?_
    refine o_ev (ev_assign rfl) rfl ?_
    refine o_nil (sq_n (w_seq (w_seq (w_region (?_)))))
    refine o_ev (ev_move rfl) rfl ?_
    refine o_ev (ev_neq_nil_nil rfl) rfl ?_
    refine o_nil (sq_n (?_))
    refine w_if_false rfl (w_skip (sq_n (w_seq (w_region (?_)))))
    refine o_ev (ev_move rfl) rfl ?_
    refine o_st (st_call (vs := [_]) rfl (stUnpack hil hib)) rfl ?_
    rintro v1 H1 hK
    rcases hK with ⟨he, _⟩ | ⟨fs, n, ps, lp, F, sf, sp, he, hP, rfl, rfl⟩
    · skip
      exfalso; rw [hu] at he; cases he -- DONE
    · skip
      rw [hu] at he
      simp only [Option.some.injEq, Prod.mk.injEq] at he
      obtain ⟨rfl, rfl, rfl⟩ := he
      refine o_ev (ev_move rfl) rfl ?_
      refine o_ev (ev_extract1 rfl rfl) rfl ?_
      refine o_ev (ev_extract1 rfl rfl) rfl ?_
      refine o_st (st_alloc) rfl ?_
      rintro _ _ ⟨b3, rfl, rfl⟩
      refine o_st (st_store rfl rfl rfl) rfl ?_
      rintro _ _ ⟨rfl, rfl⟩
      refine o_ev (ev_assign rfl) rfl ?_
      refine o_nil (sq_n (w_seq (w_seq (?_))))
      refine w_draw Tryz_mixed (fun i => [4, 5].contains i) (fun k H => (k = 3 → HasV H b3 [sf.val, .int .i64 ((Int.toNat 300 : Nat) : Int), sp.val])) ?_
      refine an_first 0 rfl rfl (by kernel_rfl) rfl (Qv.of_ev (fun H hH => ev_move rfl)) ?_
      refine an_first 1 rfl rfl (by kernel_rfl) rfl (Qv.of_ev (fun H hH => ev_neq_nil_nil rfl)) ?_
      refine an_first 2 rfl rfl (by kernel_rfl) rfl (Qv.of_ev (fun H hH => ev_move rfl)) ?_
      refine an_on 3 rfl rfl rfl rfl (by kernel_rfl) rfl (Qv.of_ev (fun H hH => by have hN := hH rfl; exact ev_loadS rfl)) ?_
      refine an_step_on 4 rfl rfl rfl (by kernel_rfl) rfl (fun k hk => fun hi => by subst hi; infer_instance) (st_call (vs := []) rfl (smallIx)) ?_
      rintro _ _ ⟨lp2, F2, sf2, sp2, hP2, rfl, rfl⟩
      refine an_step_on 5 rfl rfl rfl (by kernel_rfl) rfl (fun k hk => fun hi => by subst hi; infer_instance) (st_call (vs := [_, _]) rfl (sameIx (ps := smallPs) (ps2 := smallPs) (hP.ext (fun _ _ h => inferInstance) (fun _ _ h => inferInstance)) (hP2.ext (fun _ _ h => inferInstance) (fun _ _ h => inferInstance)) (fun p hp => (small_ok p hp).1) (fun p hp => (small_ok p hp).1) (by decide) (by decide) (by decide))) ?_
      rintro _ _ ⟨rfl, rfl⟩
      refine an_on 6 rfl rfl rfl rfl (by kernel_rfl) rfl (Qv.of_ev (fun H hH => ev_not rfl)) ?_
      refine an_first 7 rfl rfl (by kernel_rfl) rfl (Qv.of_ev (fun H hH => ev_pick_f rfl rfl)) ?_
      refine an_nil (by kernel_rfl) (fun k hk => fun hi => absurd hk (by subst hi; exact not_live (by kernel_rfl))) (sq_n (?_))
      refine w_if rfl (fun h1 => ?_) (fun h1 => ?_)
      · skip
        skip
        exact absurd h1 (by decide) -- DONE
      · skip
        skip
        refine w_skip (sq_n (w_seq (w_region (?_))))
        refine o_st (st_call (vs := []) rfl (smallIx)) rfl ?_
        rintro _ _ ⟨lp3, F3, sf3, sp3, hP3, rfl, rfl⟩
        refine o_st (st_alloc) rfl ?_
        rintro _ _ ⟨b4, rfl, rfl⟩
        refine o_st (st_store rfl rfl rfl) rfl ?_
        rintro _ _ ⟨rfl, rfl⟩
        refine o_nil (sq_n (w_seq (w_region (?_))))
        refine o_ev (ev_fieldAddr rfl) rfl ?_
        refine o_st (st_store rfl rfl rfl) rfl ?_
        rintro _ _ ⟨rfl, rfl⟩
        refine o_nil (sq_n (w_seq (w_region (?_))))
        refine o_ev (ev_loadS rfl) rfl ?_
        refine o_st (st_call (vs := [_]) rfl (stPack (ps := smallPs) (hP3.ext (fun _ _ h => inferInstance) (fun _ _ h => inferInstance)) small_ok (by decide) small_names (by decide) small_len)) rfl ?_
        rintro v1 H1 hK
        rcases hK with ⟨e, he, rfl, rfl⟩ | ⟨img', s2, he, rfl, rfl⟩
        · skip
          rw [small_neg] at he
          obtain rfl := Except.error.inj he
          refine o_ev (ev_move rfl) rfl ?_
          refine o_ev (ev_extract1 rfl rfl) rfl ?_
          refine o_ev (ev_extract1 rfl rfl) rfl ?_
          refine o_ev (ev_assign rfl) rfl ?_
          refine o_nil (sq_n (w_seq (w_region (?_))))
          refine o_ev (ev_move rfl) rfl ?_
          refine o_st (st_call (vs := [_]) rfl (numErr 1)) rfl ?_
          rintro _ _ ⟨rfl, rfl⟩
          refine o_ev (ev_eql rfl rfl) rfl ?_
          refine o_split (ev_move rfl) rfl (fun h2 => ?_) (fun h2 => ?_)
          · skip
            skip
            refine o_on_ev rfl rfl rfl (ev_move rfl) ?_
            refine o_on rfl rfl rfl (st_call (vs := [_, _, _]) rfl (refBad (n := Int.toNat 300) (ps := smallPs) (q := ([120], [2, 5])) hil hib hu small_chk (by decide) rfl small_one (by simp) (by intro x hx; simp at hx; omega))) ?_
            rintro _ _ ⟨rfl, rfl⟩
            refine o_ev (ev_pick_t rfl rfl) rfl ?_
            refine o_ev (ev_assign rfl) rfl ?_
            refine o_nil (sq_n (w_ret (?_)))
            refine res_intro (vs := [_]) Tryz.results8 (.inr rfl) (.cons (.tmp rfl) (.nil)) ?_
            exact ⟨_, by (repeat (first | exact Ka | refine Kb ?_ | refine Kc ?_ | refine Kf ?_ | refine Kd ?_ | refine Ke ?_ | refine Kh ?_ | refine Kg rfl ?_ | refine Ki ?_ | refine Kj ?_ | refine Kk ?_ | refine Kl ?_ | refine Km ?_ | refine Kn ?_ | refine Ko ?_)), rfl, rfl⟩
          · skip
            skip
            exact absurd h2 (by decide) -- DONE
        · skip
          exfalso; rw [small_neg] at he; cases he -- DONE
end Go.Sx
