import Derived.Test.YtcbidldebfibkaaGreatDoorW31
import Derived.Test.YtcbidldebfibkaaGreatDoorSxQ
set_option linter.unusedVariables false
set_option linter.unusedSimpArgs false
set_option linter.unusedSectionVars false
set_option linter.unnecessarySimpa false
namespace Go.Sx
open Go Go.Proofs
set_option maxRecDepth 100000
set_option linter.unusedSimpArgs false
set_option linter.unusedVariables false

/-! ## The contracts, way by way -/
theorem Sl.nilB {H : Heap} : Sl H SV.nil eB [] := ⟨fun _ _ => ⟨rfl, Nat.le_refl _, .inl ⟨rfl, rfl⟩⟩⟩
section
variable {G : Base} {H : Heap} {sf sp s : SV} {fs : List FV} {lp : List (SV × SV)} {ps : Pcs} {next : Int} {xs : List Nat}
theorem stPackE [hg : Glb G H] [Tab H 26 zipT] [Tab H 24 sealT] [Sl H sf eF fs] [hsp : Sl H sp eP lp] {e : Nat} (he : packE fs next ps = .error e) (hP : PsIn H lp ps) (hk : OkPs ps) (hn : fs.length ≤ 1000000000) (hf : ∀ f ∈ fs, f.name.size ≤ 1000000000000) (hpl : ps.length ≤ 100000000) (hsum : psLen ps ≤ 900000000) :
    SC G Tryz.prog 11 [.agg [sf.val, .int .i64 next, sp.val].toArray] H (fun v H' => v = .tuple #[.slice none 0 0, G.err e] ∧ H' = H) :=
  (stPack hP hk hn hf hpl hsum).mono fun v H' h => by
    rcases h with ⟨e', he', h1, h2⟩ | ⟨img, s', he', _⟩
    · rw [he] at he'; obtain rfl := Except.error.inj he'; exact ⟨h1, h2⟩
    · rw [he] at he'; cases he'
theorem stPackO [hg : Glb G H] [Tab H 26 zipT] [Tab H 24 sealT] [Sl H sf eF fs] [hsp : Sl H sp eP lp] {img : List Nat} (he : packE fs next ps = .ok img) (hP : PsIn H lp ps) (hk : OkPs ps) (hn : fs.length ≤ 1000000000) (hf : ∀ f ∈ fs, f.name.size ≤ 1000000000000) (hpl : ps.length ≤ 100000000) (hsum : psLen ps ≤ 900000000) :
    SC G Tryz.prog 11 [.agg [sf.val, .int .i64 next, sp.val].toArray] H (fun v H' => ∃ s' : SV, v = .tuple #[s'.val, .nilIface] ∧ H' = Row s' eB img :: H) :=
  (stPack hP hk hn hf hpl hsum).mono fun v H' h => by
    rcases h with ⟨e', he', h1, h2⟩ | ⟨img', s', he', h1, h2⟩
    · rw [he] at he'; cases he'
    · rw [he] at he'; obtain rfl := Except.ok.inj he'; exact ⟨s', h1, h2⟩
theorem refPackE [Sl H sf eF fs] [hsp : Sl H sp eP lp] {e : Nat} (he : packE fs next ps = .error e) (hP : PsIn H lp ps) (hk : OkPs ps) (hn : fs.length ≤ 1000000000) (hf : ∀ f ∈ fs, f.name.size ≤ 1000000000000) (hpl : ps.length ≤ 100000000) (hsum : psLen ps ≤ 900000000) :
    SC G Tryz.prog 9 [.agg [sf.val, .int .i64 next, sp.val].toArray] H (fun v H' => v = .tuple #[.slice none 0 0, .int .i64 (numE e)] ∧ H' = H) :=
  (refPack hP hk hn hf hpl hsum).mono fun v H' h => by
    rcases h with ⟨e', he', h1, h2, _⟩ | ⟨img, s', he', _⟩
    · rw [he] at he'; obtain rfl := Except.error.inj he'; exact ⟨h1, h2⟩
    · rw [he] at he'; cases he'
theorem refPackO [Sl H sf eF fs] [hsp : Sl H sp eP lp] {img : List Nat} (he : packE fs next ps = .ok img) (hP : PsIn H lp ps) (hk : OkPs ps) (hn : fs.length ≤ 1000000000) (hf : ∀ f ∈ fs, f.name.size ≤ 1000000000000) (hpl : ps.length ≤ 100000000) (hsum : psLen ps ≤ 900000000) :
    SC G Tryz.prog 9 [.agg [sf.val, .int .i64 next, sp.val].toArray] H (fun v H' => ∃ s' : SV, v = .tuple #[s'.val, .int .i64 0] ∧ H' = Row s' eB img :: H) :=
  (refPack hP hk hn hf hpl hsum).mono fun v H' h => by
    rcases h with ⟨e', he', _⟩ | ⟨img', s', he', h1, h2⟩
    · rw [he] at he'; cases he'
    · rw [he] at he'; obtain rfl := Except.ok.inj he'; exact ⟨s', h1, h2⟩
theorem stUnpackN [hg : Glb G H] [Tab H 26 zipT] [Tab H 24 sealT] [hs : Sl H s eB xs] (hu : unE xs = none) (hn : xs.length ≤ 1000000000) (hb : ∀ x ∈ xs, x < 256) : SC G Tryz.prog 15 [s.val] H (fun v H' => v = .tuple #[.agg [SV.nil.val, .int .i64 0, SV.nil.val].toArray, G.err 10] ∧ H' = H) :=
  (stUnpack hn hb).mono fun v H' h => by
    rcases h with ⟨_, h1, h2⟩ | ⟨_, _, _, _, _, _, _, he, _⟩
    · exact ⟨h1, h2⟩
    · rw [hu] at he; cases he
theorem stUnpackO [hg : Glb G H] [Tab H 26 zipT] [Tab H 24 sealT] [hs : Sl H s eB xs] {n : Nat} (hu : unE xs = some (fs, n, ps)) (hn : xs.length ≤ 1000000000) (hb : ∀ x ∈ xs, x < 256) : SC G Tryz.prog 15 [s.val] H (fun v H' =>
    ∃ lp F, ∃ sf sp : SV, PsIn F lp ps ∧ v = .tuple #[.agg [sf.val, .int .i64 ((n : Nat) : Int), sp.val].toArray, .nilIface] ∧ H' = Row sf eF fs :: Row sp eP lp :: Star F :: H) :=
  (stUnpack hn hb).mono fun v H' h => by
    rcases h with ⟨he, _⟩ | ⟨fs', n', ps', lp, F, sf, sp, he, hP, h1, h2⟩
    · rw [hu] at he; cases he
    · rw [hu] at he
      simp only [Option.some.injEq, Prod.mk.injEq] at he
      obtain ⟨rfl, rfl, rfl⟩ := he
      exact ⟨lp, F, sf, sp, hP, h1, h2⟩
end
theorem packPs_lt : ∀ (ps : Pcs) (e : Nat), packPs ps = .error e → e < 24
  | [], e, h => by cases h
  | p :: ps, e, h => by
    rw [packPs] at h
    split at h
    · cases h; decide
    · split at h
      · cases h; decide
      · split at h
        · rename_i e' he; cases h; exact packPs_lt ps e he
        · cases h
theorem packE_lt {fs : List FV} {next : Int} {ps : Pcs} {e : Nat} (h : packE fs next ps = .error e) : e < 24 := by
  rw [packE] at h
  split at h
  · cases h; decide
  · split at h
    · cases h; decide
    · split at h
      · rename_i e' he; cases h; exact packPs_lt ps e he
      · cases h
theorem numE_ne : ∀ e : Fin 24, numE e.val ≠ 0 := by decide

/-! ## StorePacks -/
theorem lawPacksE {G : Base} {H : Heap} {sf sp : SV} {fs : List FV} {lp : List (SV × SV)} {ps : Pcs} {n : Int} [hg : Glb G H] [ErrT G] [Tab H 26 zipT] [Tab H 24 sealT] [Sl H sf eF fs] [hsp : Sl H sp eP lp] {e : Nat} (he : packE fs n ps = .error e) (hP : PsIn H lp ps) (hk : OkPs ps) (hn : fs.length ≤ 1000000000) (hf : ∀ f ∈ fs, f.name.size ≤ 1000000000000) (hpl : ps.length ≤ 100000000) (hsum : psLen ps ≤ 900000000) :
    SC G Tryz.prog 3 [.agg [sf.val, .int .i64 n, sp.val].toArray] H (fun v H' => v = .bool true ∧ H' = H) := by
  have h24 := packE_lt he
  have hne := numE_ne ⟨e, h24⟩
  haveI : Lt24 e := ⟨h24⟩
  haveI hnil : ∀ H : Heap, Sl H SV.nil eB [] := fun H => Sl.nilB
  refine SC.out (sc_walk Tryz.func3 rfl Tryz.ntmps3 (by kernel_rfl) (Nat.le_of_ble_eq_true rfl) ?_)
  refine w_seq (w_region (?_))
  refine o_st (st_box rfl) rfl ?_
  rintro _ _ ⟨b1, rfl, rfl⟩
  refine o_ev (ev_assign rfl) rfl ?_
  refine o_nil (sq_n (w_seq (w_seq (w_region (?_)))))
  refine o_st (st_call (vs := []) rfl (fixedOk)) rfl ?_
  rintro _ _ ⟨rfl, rfl⟩
  refine o_ev (ev_not rfl) rfl ?_
  refine o_nil (sq_n (?_))
  refine w_if rfl (fun h1 => ?_) (fun h1 => ?_)
  · skip
    skip
    exact absurd h1 (by decide) -- DONE
  · skip
    skip
    refine w_skip (sq_n (w_seq (w_region (?_))))
    refine o_ev (ev_loadS rfl) rfl ?_
    refine o_st (st_call (vs := [_]) rfl (refPackE he (hP.ext (fun _ _ h => inferInstance) (fun _ _ h => inferInstance)) hk hn hf hpl hsum)) rfl ?_
    rintro _ _ ⟨rfl, rfl⟩
    refine o_ev (ev_move rfl) rfl ?_
    refine o_ev (ev_extract1 rfl rfl) rfl ?_
    refine o_ev (ev_extract1 rfl rfl) rfl ?_
    refine o_ev (ev_assign rfl) rfl ?_
    refine o_ev (ev_assign rfl) rfl ?_
    refine o_nil (sq_n (w_seq (w_region (?_))))
    refine o_ev (ev_loadS rfl) rfl ?_
    refine o_st (st_call (vs := [_]) rfl (copiedIx (hP.ext (fun _ _ h => inferInstance) (fun _ _ h => inferInstance)) hn (by omega) hk)) rfl ?_
    rintro _ _ ⟨lp2, F2, sf2, sp2, hP2, rfl, rfl⟩
    refine o_st (st_alloc) rfl ?_
    rintro _ _ ⟨b5, rfl, rfl⟩
    refine o_st (st_store rfl rfl rfl) rfl ?_
    rintro _ _ ⟨rfl, rfl⟩
    refine o_nil (sq_n (w_seq (w_region (?_))))
    refine o_ev (ev_loadS rfl) rfl ?_
    refine o_st (st_call (vs := [_]) rfl (stPackE he (hP2.ext (fun _ _ h => inferInstance) (fun _ _ h => inferInstance)) hk hn hf hpl hsum)) rfl ?_
    rintro _ _ ⟨rfl, rfl⟩
    refine o_ev (ev_move rfl) rfl ?_
    refine o_ev (ev_extract1 rfl rfl) rfl ?_
    refine o_ev (ev_extract1 rfl rfl) rfl ?_
    refine o_ev (ev_assign rfl) rfl ?_
    refine o_ev (ev_assign rfl) rfl ?_
    refine o_nil (sq_n (w_seq (w_seq (w_region (?_)))))
    refine o_ev (ev_move rfl) rfl ?_
    refine o_st (st_call (vs := [_]) rfl (numErr e)) rfl ?_
    rintro _ _ ⟨rfl, rfl⟩
    refine o_ev (ev_move rfl) rfl ?_
    refine o_ev (ev_neq rfl rfl) rfl ?_
    refine o_split (ev_move rfl) rfl (fun h2 => ?_) (fun h2 => ?_)
    · skip
      skip
      exact absurd rfl (of_decide_eq_true h2) -- DONE
    · skip
      skip
      refine o_on_ev rfl rfl rfl (ev_move rfl) ?_
      refine o_on_ev rfl rfl rfl (ev_move rfl) ?_
      refine o_on rfl rfl rfl (st_call (vs := [_, _]) rfl (bytesEq (s := SV.nil) (s2 := SV.nil) (xs := []) (ys := []) (by simp) (by simp))) ?_
      rintro _ _ ⟨rfl, rfl⟩
      refine o_on_ev rfl rfl rfl (ev_not rfl) ?_
      refine o_ev (ev_pick_f rfl rfl) rfl ?_
      refine o_split (ev_move rfl) rfl (fun h3 => ?_) (fun h3 => ?_)
      · skip
        skip
        exact absurd h3 (by decide) -- DONE
      · skip
        skip
        refine o_on_ev rfl rfl rfl (ev_loadS rfl) ?_
        refine o_on_ev rfl rfl rfl (ev_loadS rfl) ?_
        refine o_on rfl rfl rfl (st_call (vs := [_, _]) rfl (sameIx (ps := ps) (ps2 := ps) (hP2.ext (fun _ _ h => inferInstance) (fun _ _ h => inferInstance)) (hP.ext (fun _ _ h => inferInstance) (fun _ _ h => inferInstance)) (fun p hp => (hk p hp).1) (fun p hp => (hk p hp).1) (fun p hp => by have := (hk p hp).2.2.2; omega) (by omega) (by omega))) ?_
        rintro _ _ ⟨rfl, rfl⟩
        refine o_on_ev rfl rfl rfl (ev_not rfl) ?_
        refine o_ev (ev_pick_f rfl rfl) rfl ?_
        refine o_nil (sq_n (?_))
        refine w_if rfl (fun h4 => ?_) (fun h4 => ?_)
        · skip
          skip
          exact absurd h4 (by simp) -- DONE
        · skip
          skip
          refine w_skip (sq_n (w_seq (w_seq (w_region (?_)))))
          refine o_ev (ev_move rfl) rfl ?_
          refine o_ev (ev_neq rfl rfl) rfl ?_
          refine o_nil (sq_n (?_))
          refine w_if rfl (fun h5 => ?_) (fun h5 => ?_)
          · skip
            skip
            refine w_seq (w_region (?_))
            refine o_ev (ev_assign rfl) rfl ?_
            refine o_nil (sq_n (w_ret (sq_r (?_))))
            refine res_intro (vs := [_]) Tryz.results3 (.inr rfl) (.cons (.tmp rfl) (.nil)) ?_
            exact ⟨_, by (repeat (first | exact Ka | refine Kb ?_ | refine Kc ?_ | refine Kf ?_ | refine Kd ?_ | refine Ke ?_ | refine Kh ?_ | refine Kg rfl ?_ | refine Ki ?_ | refine Kj ?_ | refine Kk ?_ | refine Kl ?_ | refine Km ?_ | refine Kn ?_ | refine Ko ?_)), rfl, rfl⟩
          · skip
            skip
            exact absurd hne (of_decide_eq_false h5) -- DONE
theorem lawPacksO {G : Base} {H : Heap} {sf sp : SV} {fs : List FV} {lp : List (SV × SV)} {ps : Pcs} {n : Int} [hg : Glb G H] [ErrT G] [Tab H 26 zipT] [Tab H 24 sealT] [Sl H sf eF fs] [hsp : Sl H sp eP lp] {img : List Nat} (he : packE fs n ps = .ok img) (hP : PsIn H lp ps) (hk : OkPs ps) (hn : fs.length ≤ 1000000000) (hf : ∀ f ∈ fs, f.name.size ≤ 1000000000000) (hpl : ps.length ≤ 100000000) (hsum : psLen ps ≤ 900000000) :
    SC G Tryz.prog 3 [.agg [sf.val, .int .i64 n, sp.val].toArray] H (fun v H' => v = .bool true ∧ H' = H) := by
  obtain ⟨hu, hn0, hn1, hc⟩ := un_pack hk (by omega) he
  obtain ⟨hil, hib⟩ := pack_len hk (by omega) he
  obtain ⟨m, rfl⟩ : ∃ m : Nat, n = m := ⟨n.toNat, by omega⟩
  rw [Int.toNat_natCast] at hu
  refine SC.out (sc_walk Tryz.func3 rfl Tryz.ntmps3 (by kernel_rfl) (Nat.le_of_ble_eq_true rfl) ?_)
  refine w_seq (w_region (?_))
  refine o_st (st_box rfl) rfl ?_
  rintro _ _ ⟨b1, rfl, rfl⟩
  refine o_ev (ev_assign rfl) rfl ?_
  refine o_nil (sq_n (w_seq (w_seq (w_region (?_)))))
  refine o_st (st_call (vs := []) rfl (fixedOk)) rfl ?_
  rintro _ _ ⟨rfl, rfl⟩
  refine o_ev (ev_not rfl) rfl ?_
  refine o_nil (sq_n (?_))
  refine w_if rfl (fun h1 => ?_) (fun h1 => ?_)
  · skip
    skip
    exact absurd h1 (by decide) -- DONE
  · skip
    skip
    refine w_skip (sq_n (w_seq (w_region (?_))))
    refine o_ev (ev_loadS rfl) rfl ?_
    refine o_st (st_call (vs := [_]) rfl (refPackO he (hP.ext (fun _ _ h => inferInstance) (fun _ _ h => inferInstance)) hk hn hf hpl hsum)) rfl ?_
    rintro _ _ ⟨s1, rfl, rfl⟩
    · skip
      refine o_ev (ev_move rfl) rfl ?_
      refine o_ev (ev_extract1 rfl rfl) rfl ?_
      refine o_ev (ev_extract1 rfl rfl) rfl ?_
      refine o_ev (ev_assign rfl) rfl ?_
      refine o_ev (ev_assign rfl) rfl ?_
      refine o_nil (sq_n (w_seq (w_region (?_))))
      refine o_ev (ev_loadS rfl) rfl ?_
      refine o_st (st_call (vs := [_]) rfl (copiedIx (hP.ext (fun _ _ h => inferInstance) (fun _ _ h => inferInstance)) hn (by omega) hk)) rfl ?_
      rintro _ _ ⟨lp2, F2, sf2, sp2, hP2, rfl, rfl⟩
      refine o_st (st_alloc) rfl ?_
      rintro _ _ ⟨b5, rfl, rfl⟩
      refine o_st (st_store rfl rfl rfl) rfl ?_
      rintro _ _ ⟨rfl, rfl⟩
      refine o_nil (sq_n (w_seq (w_region (?_))))
      refine o_ev (ev_loadS rfl) rfl ?_
      refine o_st (st_call (vs := [_]) rfl (stPackO he (hP2.ext (fun _ _ h => inferInstance) (fun _ _ h => inferInstance)) hk hn hf hpl hsum)) rfl ?_
      rintro _ _ ⟨s2, rfl, rfl⟩
      · skip
        refine o_ev (ev_move rfl) rfl ?_
        refine o_ev (ev_extract1 rfl rfl) rfl ?_
        refine o_ev (ev_extract1 rfl rfl) rfl ?_
        refine o_ev (ev_assign rfl) rfl ?_
        refine o_ev (ev_assign rfl) rfl ?_
        refine o_nil (sq_n (w_seq (w_seq (w_region (?_)))))
        refine o_ev (ev_move rfl) rfl ?_
        refine o_st (st_call (vs := [_]) rfl (numNil)) rfl ?_
        rintro _ _ ⟨rfl, rfl⟩
        · skip
          refine o_ev (ev_move rfl) rfl ?_
          refine o_ev (ev_neq rfl rfl) rfl ?_
          refine o_ev (ev_move rfl) rfl ?_
          refine o_on_ev rfl rfl rfl (ev_move rfl) ?_
          refine o_on_ev rfl rfl rfl (ev_move rfl) ?_
          refine o_on rfl rfl rfl (st_call (vs := [_, _]) rfl (bytesEq (xs := img) (ys := img) hib hib)) ?_
          rintro _ _ ⟨rfl, rfl⟩
          refine o_on_ev rfl rfl rfl (ev_not rfl) ?_
          refine o_ev (ev_pick_f rfl rfl) rfl ?_
          refine o_split (ev_move rfl) rfl (fun h2 => ?_) (fun h2 => ?_)
          · skip
            skip
            exact absurd h2 (by simp) -- DONE
          · skip
            skip
            refine o_on_ev rfl rfl rfl (ev_loadS rfl) ?_
            refine o_on_ev rfl rfl rfl (ev_loadS rfl) ?_
            refine o_on rfl rfl rfl (st_call (vs := [_, _]) rfl (sameIx (ps := ps) (ps2 := ps) (hP2.ext (fun _ _ h => inferInstance) (fun _ _ h => inferInstance)) (hP.ext (fun _ _ h => inferInstance) (fun _ _ h => inferInstance)) (fun p hp => (hk p hp).1) (fun p hp => (hk p hp).1) (fun p hp => by have := (hk p hp).2.2.2; omega) (by omega) (by omega))) ?_
            rintro _ _ ⟨rfl, rfl⟩
            refine o_on_ev rfl rfl rfl (ev_not rfl) ?_
            refine o_ev (ev_pick_f rfl rfl) rfl ?_
            refine o_nil (sq_n (?_))
            refine w_if rfl (fun h3 => ?_) (fun h3 => ?_)
            · skip
              skip
              exact absurd h3 (by simp) -- DONE
            · skip
              skip
              refine w_skip (sq_n (w_seq (w_seq (w_region (?_)))))
              refine o_ev (ev_move rfl) rfl ?_
              refine o_ev (ev_neq rfl rfl) rfl ?_
              refine o_nil (sq_n (?_))
              refine w_if_false rfl (w_skip (sq_n (w_seq (w_region (?_)))))
              refine o_ev (ev_move rfl) rfl ?_
              refine o_st (st_call (vs := [_]) rfl (stUnpackO hu (by omega) hib)) rfl ?_
              rintro _ _ ⟨lp3, F3, sf3, sp3, hP3, rfl, rfl⟩
              · skip
                refine o_ev (ev_move rfl) rfl ?_
                refine o_ev (ev_extract1 rfl rfl) rfl ?_
                refine o_ev (ev_extract1 rfl rfl) rfl ?_
                refine o_st (st_alloc) rfl ?_
                rintro _ _ ⟨b8, rfl, rfl⟩
                refine o_st (st_store rfl rfl rfl) rfl ?_
                rintro _ _ ⟨rfl, rfl⟩
                refine o_ev (ev_assign rfl) rfl ?_
                refine o_nil (sq_n (w_seq (w_region (?_))))
                refine o_ev (ev_move rfl) rfl ?_
                refine o_ev (ev_eql_nil_nil rfl) rfl ?_
                refine o_ev (ev_move rfl) rfl ?_
                refine o_on_ev rfl rfl rfl (ev_loadS rfl) ?_
                refine o_on_ev rfl rfl rfl (ev_loadS rfl) ?_
                refine o_on rfl rfl rfl (st_call (vs := [_, _]) rfl (sameIx (ps := ps) (ps2 := ps) (hP3.ext (fun _ _ h => inferInstance) (fun _ _ h => inferInstance)) (hP.ext (fun _ _ h => inferInstance) (fun _ _ h => inferInstance)) (fun p hp => (hk p hp).1) (fun p hp => (hk p hp).1) (fun p hp => by have := (hk p hp).2.2.2; omega) (by omega) (by omega))) ?_
                rintro _ _ ⟨rfl, rfl⟩
                refine o_ev (ev_pick_t rfl rfl) rfl ?_
                refine o_ev (ev_assign rfl) rfl ?_
                refine o_nil (sq_n (w_ret (?_)))
                refine res_intro (vs := [_]) Tryz.results3 (.inr rfl) (.cons (.tmp rfl) (.nil)) ?_
                exact ⟨_, by (repeat (first | exact Ka | refine Kb ?_ | refine Kc ?_ | refine Kf ?_ | refine Kd ?_ | refine Ke ?_ | refine Kh ?_ | refine Kg rfl ?_ | refine Ki ?_ | refine Kj ?_ | refine Kk ?_ | refine Kl ?_ | refine Km ?_ | refine Kn ?_ | refine Ko ?_)), by rw [decide_eq_true ⟨rfl, rfl, rfl⟩]; rfl, rfl⟩
theorem lawPacks {G : Base} {H : Heap} {sf sp : SV} {fs : List FV} {lp : List (SV × SV)} {ps : Pcs} {n : Int} [hg : Glb G H] [ErrT G] [Tab H 26 zipT] [Tab H 24 sealT] [Sl H sf eF fs] [hsp : Sl H sp eP lp] (hP : PsIn H lp ps) (hk : OkPs ps) (hn : fs.length ≤ 1000000000) (hf : ∀ f ∈ fs, f.name.size ≤ 1000000000000) (hpl : ps.length ≤ 100000000) (hsum : psLen ps ≤ 900000000) :
    SC G Tryz.prog 3 [.agg [sf.val, .int .i64 n, sp.val].toArray] H (fun v H' => v = .bool true ∧ H' = H) := by
  cases he : packE fs n ps with
  | error e => exact lawPacksE he hP hk hn hf hpl hsum
  | ok img => exact lawPacksO he hP hk hn hf hpl hsum
end Go.Sx
namespace Go.Sx
open Go Go.Proofs
set_option maxRecDepth 100000
set_option linter.unusedSimpArgs false
set_option linter.unusedVariables false

/-! ## What an image that is taken holds -/
theorem rdPs_ok : ∀ (M : Nat) (bl : List (Nat × List Nat)) (ps : Pcs), (∀ q ∈ bl, (∀ x ∈ q.2, x < 256) ∧ q.2.length ≤ M) → rdPs bl = some ps → ∀ p ∈ ps, (∀ x ∈ p.1, x < 256) ∧ p.1.length ≤ M ∧ (∀ x ∈ p.2, x ≤ 9223372036854775807) ∧ p.2.length ≤ M
  | M, [], ps, _, h => by simp only [rdPs, Option.some.injEq] at h; subst h; intro p hp; cases hp
  | M, [_], ps, _, h => by cases h
  | M, a :: b :: r, ps, hb, h => by
    rw [rdPs] at h
    split at h
    · cases h
    · split at h
      · cases h
      · rename_i d m hr
        split at h
        · cases h
        · rename_i hm
          split at h
          · cases h
          · rename_i ps' hp
            simp only [Option.some.injEq] at h
            subst h
            have ih := rdPs_ok M r ps' (fun q hq => hb q (by simp [hq])) hp
            obtain ⟨q1, q2, q3, q4, q5⟩ := rdRising_back (fun x hx => (hb b (by simp)).1 x hx) hr
            have h1 := congrArg List.length q2
            have h2 := riseB_len_ge d (-1)
            have h3 := (hb b (by simp)).2
            rw [List.length_append, List.length_take] at h1
            intro p hp
            rcases List.mem_cons.1 hp with rfl | hp
            · exact ⟨(hb a (by simp)).1, (hb a (by simp)).2, fun x hx => (q5 x hx).2, by simp only; omega⟩
            · exact ih p hp
theorem packPs_ge : ∀ (ps : Pcs) (bl : List (Nat × List Nat)), packPs ps = .ok bl → psLen ps ≤ 20 * (encAll bl).length ∧ bl.length = 2 * ps.length
  | [], bl, h => by simp only [packPs, Except.ok.injEq] at h; subst h; simp [psLen]
  | p :: ps, bl, h => by
    rw [packPs] at h
    split at h
    · cases h
    · split at h
      · cases h
      · split at h
        · cases h
        · rename_i bl' hp
          simp only [Except.ok.injEq] at h
          subst h
          obtain ⟨ih, ih2⟩ := packPs_ge ps bl' hp
          have hrl := riseB_len_ge p.2 (-1)
          have hu1 := uv_pos p.2.length
          have hu2 := uv_pos p.1.length
          have hu3 := uv_pos (uv p.2.length ++ riseB (-1) p.2).length
          have e : encAll ((3, p.1) :: (4, uv p.2.length ++ riseB (-1) p.2) :: bl') = encB 3 p.1 ++ (encB 4 (uv p.2.length ++ riseB (-1) p.2) ++ encAll bl') := by simp [encAll]
          refine ⟨?_, by simp only [List.length_cons]; omega⟩
          rw [e, List.length_append, List.length_append, encB_len, encB_len, psLen, List.map_cons, List.sum_cons, ← psLen]
          rw [List.length_append] at hu3 ⊢
          omega
theorem un_ok {xs : List Nat} {fs : List FV} {n : Nat} {ps : Pcs} (hb : ∀ x ∈ xs, x < 256) (hl : xs.length ≤ 40000000) (h : unE xs = some (fs, n, ps)) : chkS fs = true ∧ n ≤ 1099511627776 ∧ OkPs ps ∧ ps.length ≤ 40000000 ∧ psLen ps ≤ 900000000 := by
  have hp := pack_un hb h
  rw [unE] at h
  split at h
  · cases h
  · rename_i bl hi
    obtain ⟨e1, e2, e3⟩ := rdImg_back hb hi
    have hxl := congrArg List.length e1
    rw [imgP_len] at hxl
    match bl, e1, e3, hxl, h with
    | a :: b :: r, e1, e3, hxl, h =>
      have hel : encAll (a :: b :: r) = encB a.1 a.2 ++ (encB b.1 b.2 ++ encAll r) := by simp [encAll]
      have hrl : (encAll r).length ≤ 40000000 := by
        rw [hel, List.length_append, List.length_append] at hxl; omega
      simp only [unBl] at h
      split at h
      · cases h
      · split at h
        · cases h
        · split at h
          · cases h
          · rename_i fs' n' hh ps' hr
            simp only [Option.some.injEq, Prod.mk.injEq] at h
            obtain ⟨rfl, rfl, rfl⟩ := h
            have hok := rdPs_ok 40000000 r ps' (fun q hq => ⟨(e3 q (by simp [hq])).2, by have := body_le hq; omega⟩) hr
            have hpk := rdPs_back r ps' (fun q hq => (e3 q (by simp [hq])).2) hr
            obtain ⟨g1, g2⟩ := packPs_ge ps' r hpk
            have g3 := encAll_ge r
            rw [packE] at hp
            split at hp
            · cases hp
            · rename_i hc
              simp only [Bool.not_eq_false] at hc
              split at hp
              · cases hp
              · exact ⟨hc, by omega, fun p hp => by obtain ⟨k1, k2, k3, k4⟩ := hok p hp; exact ⟨k1, by omega, k3, by omega⟩, by omega, by omega⟩
theorem un_turn {xs : List Nat} {i y : Nat} {r : List FV × Nat × Pcs} (hb : ∀ x ∈ xs, x < 256) (h : unE xs = some r) (hi : i < xs.length) (hy : y < 256) (hne : xs[i]? ≠ some y) : unE (xs.set i y) = none := by
  rw [unE] at h
  split at h
  · cases h
  · rename_i bl hi2
    rw [unE, rdImg_turn hb hi2 hi hy hne]
theorem un_len {xs : List Nat} {r : List FV × Nat × Pcs} (h : unE xs = some r) : 10 ≤ xs.length := by
  rw [unE] at h
  split at h
  · cases h
  · rename_i bl hi
    rw [rdImg] at hi
    split at hi
    · cases hi
    · omega
theorem set_lt {xs : List Nat} {i y : Nat} (hb : ∀ x ∈ xs, x < 256) (hy : y < 256) : ∀ x ∈ xs.set i y, x < 256 := fun z hz => by
  rcases List.mem_or_eq_of_mem_set hz with hz | rfl
  · exact hb z hz
  · exact hy
def w64 (i : Int) : Nat := (i % 18446744073709551616).toNat
theorem wrap_u64 (i : Int) : IntKind.u64.wrap i = ((w64 i : Nat) : Int) := by
  simp only [IntKind.wrap, IntKind.signed, IntKind.bits, w64]
  simp
  omega

/-! ## StoreOneForm -/
theorem lawFormN {G : Base} {H : Heap} {s : SV} {xs : List Nat} [hg : Glb G H] [ErrT G] [Tab H 26 zipT] [Tab H 24 sealT] [hs : Sl H s eB xs] (hn : xs.length ≤ 40000000) (hb : ∀ x ∈ xs, x < 256) (hu : unE xs = none) : SC G Tryz.prog 6 [s.val] H (fun v H' => v = .bool true ∧ H' = H) := by
  refine SC.out (sc_walk Tryz.func6 rfl Tryz.ntmps6 (by kernel_rfl) (Nat.le_of_ble_eq_true rfl) ?_)
  refine w_seq (w_region (?_))
  refine o_ev (ev_assign rfl) rfl ?_
  refine o_nil (sq_n (w_seq (w_seq (w_region (?_)))))
  refine o_st (st_call (vs := []) rfl (fixedOk)) rfl ?_
  rintro _ _ ⟨rfl, rfl⟩
  refine o_ev (ev_not rfl) rfl ?_
  refine o_nil (sq_n (?_))
  refine w_if rfl (fun h1 => ?_) (fun h1 => ?_)
  · skip
    skip
    exact absurd h1 (by decide) -- DONE
  · skip
    skip
    refine w_skip (sq_n (w_seq (w_region (?_))))
    refine o_ev (ev_move rfl) rfl ?_
    refine o_st (st_call (vs := [_]) rfl (stUnpackN hu (by omega) hb)) rfl ?_
    rintro _ _ ⟨rfl, rfl⟩
    · skip
      refine o_ev (ev_move rfl) rfl ?_
      refine o_ev (ev_extract1 rfl rfl) rfl ?_
      refine o_ev (ev_extract1 rfl rfl) rfl ?_
      refine o_st (st_alloc) rfl ?_
      rintro _ _ ⟨b1, rfl, rfl⟩
      refine o_st (st_store rfl rfl rfl) rfl ?_
      rintro _ _ ⟨rfl, rfl⟩
      refine o_ev (ev_assign rfl) rfl ?_
      refine o_nil (sq_n (w_seq (w_seq (w_region (?_)))))
      refine o_ev (ev_move rfl) rfl ?_
      refine o_ev (ev_neq_nil_val rfl) rfl ?_
      refine o_nil (sq_n (?_))
      refine w_if_true rfl (w_seq (w_region (?_)))
      refine o_ev (ev_move rfl) rfl ?_
      refine o_st (st_call (vs := [_]) rfl (numErr 10)) rfl ?_
      rintro _ _ ⟨rfl, rfl⟩
      refine o_ev (ev_eql rfl rfl) rfl ?_
      refine o_split (ev_move rfl) rfl (fun h2 => ?_) (fun h2 => ?_)
      · skip
        skip
        refine o_on_ev rfl rfl rfl (ev_move rfl) ?_
        refine o_on rfl rfl rfl (st_call (vs := [_, _, _]) rfl (refErr (by omega) hb hu)) ?_
        rintro _ _ ⟨rfl, rfl⟩
        refine o_ev (ev_pick_t rfl rfl) rfl ?_
        refine o_ev (ev_assign rfl) rfl ?_
        refine o_nil (sq_n (w_ret (sq_r (?_))))
        refine res_intro (vs := [_]) Tryz.results6 (.inr rfl) (.cons (.tmp rfl) (.nil)) ?_
        exact ⟨_, by (repeat (first | exact Ka | refine Kb ?_ | refine Kc ?_ | refine Kf ?_ | refine Kd ?_ | refine Ke ?_ | refine Kh ?_ | refine Kg rfl ?_ | refine Ki ?_ | refine Kj ?_ | refine Kk ?_ | refine Kl ?_ | refine Km ?_ | refine Kn ?_ | refine Ko ?_)), rfl, rfl⟩
      · skip
        skip
        exact absurd h2 (by decide) -- DONE
theorem lawFormO {G : Base} {H : Heap} {s : SV} {xs : List Nat} {fs : List FV} {n : Nat} {ps : Pcs} [hg : Glb G H] [ErrT G] [Tab H 26 zipT] [Tab H 24 sealT] [hs : Sl H s eB xs] (hn : xs.length ≤ 40000000) (hb : ∀ x ∈ xs, x < 256) (hu : unE xs = some (fs, n, ps)) : SC G Tryz.prog 6 [s.val] H (fun v H' => v = .bool true ∧ H' = H) := by
  obtain ⟨hc, hnx, hk, hpl, hsum⟩ := un_ok hb hn hu
  obtain ⟨⟨hl1, hl2⟩, hfl⟩ := chkS_get hc
  have hp := pack_un hb hu
  refine SC.out (sc_walk Tryz.func6 rfl Tryz.ntmps6 (by kernel_rfl) (Nat.le_of_ble_eq_true rfl) ?_)
  refine w_seq (w_region (?_))
  refine o_ev (ev_assign rfl) rfl ?_
  refine o_nil (sq_n (w_seq (w_seq (w_region (?_)))))
  refine o_st (st_call (vs := []) rfl (fixedOk)) rfl ?_
  rintro _ _ ⟨rfl, rfl⟩
  refine o_ev (ev_not rfl) rfl ?_
  refine o_nil (sq_n (?_))
  refine w_if rfl (fun h1 => ?_) (fun h1 => ?_)
  · skip
    skip
    exact absurd h1 (by decide) -- DONE
  · skip
    skip
    refine w_skip (sq_n (w_seq (w_region (?_))))
    refine o_ev (ev_move rfl) rfl ?_
    refine o_st (st_call (vs := [_]) rfl (stUnpackO hu (by omega) hb)) rfl ?_
    rintro _ _ ⟨lp, F, sf, sp, hP, rfl, rfl⟩
    · skip
      refine o_ev (ev_move rfl) rfl ?_
      refine o_ev (ev_extract1 rfl rfl) rfl ?_
      refine o_ev (ev_extract1 rfl rfl) rfl ?_
      refine o_st (st_alloc) rfl ?_
      rintro _ _ ⟨b3, rfl, rfl⟩
      refine o_st (st_store rfl rfl rfl) rfl ?_
      rintro _ _ ⟨rfl, rfl⟩
      refine o_ev (ev_assign rfl) rfl ?_
      refine o_nil (sq_n (w_seq (w_seq (w_region (?_)))))
      refine o_ev (ev_move rfl) rfl ?_
      refine o_ev (ev_neq_nil_nil rfl) rfl ?_
      refine o_nil (sq_n (?_))
      refine w_if_false rfl (w_skip (sq_n (w_seq (w_region (?_)))))
      refine o_ev (ev_loadS rfl) rfl ?_
      refine o_st (st_call (vs := [_]) rfl (stPackO hp (hP.ext (fun _ _ h => inferInstance) (fun _ _ h => inferInstance)) hk (by omega) (fun f hf => by have := hfl f hf; omega) (by omega) hsum)) rfl ?_
      rintro _ _ ⟨s2, rfl, rfl⟩
      · skip
        refine o_ev (ev_move rfl) rfl ?_
        refine o_ev (ev_extract1 rfl rfl) rfl ?_
        refine o_ev (ev_extract1 rfl rfl) rfl ?_
        refine o_ev (ev_assign rfl) rfl ?_
        refine o_ev (ev_assign rfl) rfl ?_
        refine o_nil (sq_n (w_seq (w_region (?_))))
        refine o_ev (ev_move rfl) rfl ?_
        refine o_ev (ev_eql_nil_nil rfl) rfl ?_
        refine o_ev (ev_move rfl) rfl ?_
        refine o_on_ev rfl rfl rfl (ev_move rfl) ?_
        refine o_on_ev rfl rfl rfl (ev_move rfl) ?_
        refine o_on rfl rfl rfl (st_call (vs := [_, _]) rfl (bytesEq (xs := xs) (ys := xs) hb hb)) ?_
        rintro _ _ ⟨rfl, rfl⟩
        refine o_ev (ev_pick_t rfl rfl) rfl ?_
        refine o_ev (ev_assign rfl) rfl ?_
        refine o_nil (sq_n (w_ret (?_)))
        refine res_intro (vs := [_]) Tryz.results6 (.inr rfl) (.cons (.tmp rfl) (.nil)) ?_
        exact ⟨_, by (repeat (first | exact Ka | refine Kb ?_ | refine Kc ?_ | refine Kf ?_ | refine Kd ?_ | refine Ke ?_ | refine Kh ?_ | refine Kg rfl ?_ | refine Ki ?_ | refine Kj ?_ | refine Kk ?_ | refine Kl ?_ | refine Km ?_ | refine Kn ?_ | refine Ko ?_)), by rw [decide_eq_true rfl]; rfl, rfl⟩
theorem lawForm {G : Base} {H : Heap} {s : SV} {xs : List Nat} [hg : Glb G H] [ErrT G] [Tab H 26 zipT] [Tab H 24 sealT] [hs : Sl H s eB xs] (hn : xs.length ≤ 40000000) (hb : ∀ x ∈ xs, x < 256) : SC G Tryz.prog 6 [s.val] H (fun v H' => v = .bool true ∧ H' = H) := by
  cases hu : unE xs with
  | none => exact lawFormN hn hb hu
  | some r => obtain ⟨fs, n, ps⟩ := r; exact lawFormO hn hb hu

/-! ## StoreFlip -/
theorem lawFlipE {G : Base} {H : Heap} {sf sp : SV} {fs : List FV} {lp : List (SV × SV)} {ps : Pcs} {n i j : Int} [hg : Glb G H] [ErrT G] [Tab H 26 zipT] [Tab H 24 sealT] [Sl H sf eF fs] [hsp : Sl H sp eP lp] {e : Nat} (he : packE fs n ps = .error e) (hP : PsIn H lp ps) (hk : OkPs ps) (hn : fs.length ≤ 1000000000) (hf : ∀ f ∈ fs, f.name.size ≤ 1000000000000) (hpl : ps.length ≤ 100000000) (hsum : psLen ps ≤ 900000000) :
    SC G Tryz.prog 5 [.agg [sf.val, .int .i64 n, sp.val].toArray, .int .i64 i, .int .i64 j] H (fun v H' => v = .bool true ∧ H' = H) := by
  have h24 := packE_lt he
  have hne := numE_ne ⟨e, h24⟩
  haveI : Lt24 e := ⟨h24⟩
  refine SC.out (sc_walk Tryz.func5 rfl Tryz.ntmps5 (by kernel_rfl) (Nat.le_of_ble_eq_true rfl) ?_)
  refine w_seq (w_region (?_))
  refine o_st (st_box rfl) rfl ?_
  rintro _ _ ⟨b1, rfl, rfl⟩
  refine o_ev (ev_assign rfl) rfl ?_
  refine o_nil (sq_n (w_seq (w_seq (w_region (?_)))))
  refine o_st (st_call (vs := []) rfl (fixedOk)) rfl ?_
  rintro _ _ ⟨rfl, rfl⟩
  refine o_ev (ev_not rfl) rfl ?_
  refine o_nil (sq_n (?_))
  refine w_if rfl (fun h1 => ?_) (fun h1 => ?_)
  · skip
    skip
    exact absurd h1 (by decide) -- DONE
  · skip
    skip
    refine w_skip (sq_n (w_seq (w_region (?_))))
    refine o_ev (ev_loadS rfl) rfl ?_
    refine o_st (st_call (vs := [_]) rfl (refPackE he (hP.ext (fun _ _ h => inferInstance) (fun _ _ h => inferInstance)) hk hn hf hpl hsum)) rfl ?_
    rintro _ _ ⟨rfl, rfl⟩
    refine o_ev (ev_move rfl) rfl ?_
    refine o_ev (ev_extract1 rfl rfl) rfl ?_
    refine o_ev (ev_extract1 rfl rfl) rfl ?_
    refine o_ev (ev_assign rfl) rfl ?_
    refine o_ev (ev_assign rfl) rfl ?_
    refine o_nil (sq_n (w_seq (w_region (?_))))
    refine o_ev (ev_loadS rfl) rfl ?_
    refine o_st (st_call (vs := [_]) rfl (stPackE he (hP.ext (fun _ _ h => inferInstance) (fun _ _ h => inferInstance)) hk hn hf hpl hsum)) rfl ?_
    rintro _ _ ⟨rfl, rfl⟩
    refine o_ev (ev_move rfl) rfl ?_
    refine o_ev (ev_extract1 rfl rfl) rfl ?_
    refine o_ev (ev_extract1 rfl rfl) rfl ?_
    refine o_ev (ev_assign rfl) rfl ?_
    refine o_ev (ev_assign rfl) rfl ?_
    refine o_nil (sq_n (w_seq (w_seq (w_region (?_)))))
    refine o_ev (ev_move rfl) rfl ?_
    refine o_ev (ev_neq rfl rfl) rfl ?_
    refine o_nil (sq_n (?_))
    refine w_if rfl (fun h2 => ?_) (fun h2 => ?_)
    · skip
      skip
      refine w_seq (w_region (?_))
      refine o_ev (ev_move rfl) rfl ?_
      refine o_st (st_call (vs := [_]) rfl (numErr e)) rfl ?_
      rintro _ _ ⟨rfl, rfl⟩
      refine o_ev (ev_move rfl) rfl ?_
      refine o_ev (ev_eql rfl rfl) rfl ?_
      refine o_ev (ev_assign rfl) rfl ?_
      refine o_nil (sq_n (w_ret (sq_r (?_))))
      refine res_intro (vs := [_]) Tryz.results5 (.inr rfl) (.cons (.tmp rfl) (.nil)) ?_
      exact ⟨_, by (repeat (first | exact Ka | refine Kb ?_ | refine Kc ?_ | refine Kf ?_ | refine Kd ?_ | refine Ke ?_ | refine Kh ?_ | refine Kg rfl ?_ | refine Ki ?_ | refine Kj ?_ | refine Kk ?_ | refine Kl ?_ | refine Km ?_ | refine Kn ?_ | refine Ko ?_)), by rw [decide_eq_true rfl]; rfl, rfl⟩
    · skip
      skip
      exact absurd hne (of_decide_eq_false h2) -- DONE
theorem lawFlipO {G : Base} {H : Heap} {sf sp : SV} {fs : List FV} {lp : List (SV × SV)} {ps : Pcs} {n at_ wi : Int} [hg : Glb G H] [ErrT G] [Tab H 26 zipT] [Tab H 24 sealT] [Sl H sf eF fs] [hsp : Sl H sp eP lp] {img : List Nat} (he : packE fs n ps = .ok img) (hP : PsIn H lp ps) (hk : OkPs ps) (hn : fs.length ≤ 1000000000) (hf : ∀ f ∈ fs, f.name.size ≤ 1000000000000) (hpl : ps.length ≤ 100000000) (hsum : psLen ps ≤ 900000000) :
    SC G Tryz.prog 5 [.agg [sf.val, .int .i64 n, sp.val].toArray, .int .i64 at_, .int .i64 wi] H (fun v H' => v = .bool true ∧ H' = H) := by
  obtain ⟨hu, hn0, hn1, hc⟩ := un_pack hk (by omega) he
  obtain ⟨hil, hib⟩ := pack_len hk (by omega) he
  have hi10 := un_len hu
  obtain ⟨m, rfl⟩ : ∃ m : Nat, n = m := ⟨n.toNat, by omega⟩
  rw [Int.toNat_natCast] at hu
  obtain ⟨i, hi⟩ : ∃ i, i = w64 at_ % img.length := ⟨_, rfl⟩
  have hil2 : i < img.length := by rw [hi]; exact Nat.mod_lt _ (by omega)
  obtain ⟨d, hd⟩ : ∃ d, d = w64 wi % 255 := ⟨_, rfl⟩
  have hdl : d < 255 := by omega
  obtain ⟨x, hx⟩ : ∃ x, img[i]? = some x := ⟨_, List.getElem?_eq_getElem hil2⟩
  have hxb := hib x (List.mem_of_getElem? hx)
  have hyb : x ^^^ (1 + d) < 256 := Nat.xor_lt_two_pow (n := 8) hxb (by omega)
  have hyne : img[i]? ≠ some (x ^^^ (1 + d)) := by
    rw [hx]
    intro h
    have h2 := Option.some.inj h
    have h3 : x ^^^ 0 = x ^^^ (1 + d) := by rw [Nat.xor_zero]; exact h2
    have := xor_inj_left h3
    omega
  have hun := un_turn hib hu hil2 hyb hyne
  have hcb := set_lt (i := i) hib hyb
  have hcl : (img.set i (x ^^^ (1 + d))).length = img.length := List.length_set
  refine SC.out (sc_walk Tryz.func5 rfl Tryz.ntmps5 (by kernel_rfl) (Nat.le_of_ble_eq_true rfl) ?_)
  refine w_seq (w_region (?_))
  refine o_st (st_box rfl) rfl ?_
  rintro _ _ ⟨b1, rfl, rfl⟩
  refine o_ev (ev_assign rfl) rfl ?_
  refine o_nil (sq_n (w_seq (w_seq (w_region (?_)))))
  refine o_st (st_call (vs := []) rfl (fixedOk)) rfl ?_
  rintro _ _ ⟨rfl, rfl⟩
  refine o_ev (ev_not rfl) rfl ?_
  refine o_nil (sq_n (?_))
  refine w_if rfl (fun h1 => ?_) (fun h1 => ?_)
  · skip
    skip
    exact absurd h1 (by decide) -- DONE
  · skip
    skip
    refine w_skip (sq_n (w_seq (w_region (?_))))
    refine o_ev (ev_loadS rfl) rfl ?_
    refine o_st (st_call (vs := [_]) rfl (refPackO he (hP.ext (fun _ _ h => inferInstance) (fun _ _ h => inferInstance)) hk hn hf hpl hsum)) rfl ?_
    rintro _ _ ⟨s1, rfl, rfl⟩
    · skip
      refine o_ev (ev_move rfl) rfl ?_
      refine o_ev (ev_extract1 rfl rfl) rfl ?_
      refine o_ev (ev_extract1 rfl rfl) rfl ?_
      refine o_ev (ev_assign rfl) rfl ?_
      refine o_ev (ev_assign rfl) rfl ?_
      refine o_nil (sq_n (w_seq (w_region (?_))))
      refine o_ev (ev_loadS rfl) rfl ?_
      refine o_st (st_call (vs := [_]) rfl (stPackO he (hP.ext (fun _ _ h => inferInstance) (fun _ _ h => inferInstance)) hk hn hf hpl hsum)) rfl ?_
      rintro _ _ ⟨s2, rfl, rfl⟩
      · skip
        refine o_ev (ev_move rfl) rfl ?_
        refine o_ev (ev_extract1 rfl rfl) rfl ?_
        refine o_ev (ev_extract1 rfl rfl) rfl ?_
        refine o_ev (ev_assign rfl) rfl ?_
        refine o_ev (ev_assign rfl) rfl ?_
        refine o_nil (sq_n (w_seq (w_seq (w_region (?_)))))
        refine o_ev (ev_move rfl) rfl ?_
        refine o_ev (ev_neq rfl rfl) rfl ?_
        refine o_nil (sq_n (?_))
        refine w_if_false rfl (w_skip (sq_n (w_seq (w_seq (w_region (?_))))))
        refine o_ev (ev_move rfl) rfl ?_
        refine o_ev (ev_neq_nil_nil rfl) rfl ?_
        refine o_ev (ev_move rfl) rfl ?_
        refine o_on_ev rfl rfl rfl (ev_move rfl) ?_
        refine o_on_ev rfl rfl rfl (ev_len1 rfl) ?_
        refine o_on_ev rfl rfl rfl (ev_eql rfl rfl) ?_
        refine o_ev (ev_pick_f rfl rfl) rfl ?_
        refine o_nil (sq_n (?_))
        refine w_if rfl (fun h2 => ?_) (fun h2 => ?_)
        · skip
          try simp only [Za, Zb, Zc, Zd, Ze, Zf, Zg, Zh] at h2
          exfalso; omega -- DONE
        · skip
          try simp only [Za, Zb, Zc, Zd, Ze, Zf, Zg, Zh] at h2
          refine w_skip (sq_n (w_seq (w_region (?_))))
          refine o_ev (ev_move rfl) rfl ?_
          refine o_ev (ev_convE rfl ((w64 at_ : Nat) : Int) (wrap_u64 at_)) rfl ?_
          refine o_ev (ev_move rfl) rfl ?_
          refine o_ev (ev_len1 rfl) rfl ?_
          refine o_ev (ev_convL 18446744073709551616 rfl rfl rfl img.length rfl (by omega)) rfl ?_
          refine o_ev (ev_rem rfl rfl (w64 at_) img.length rfl rfl (by omega)) rfl ?_
          rw [← hi]
          refine o_ev (ev_conv64 rfl (by omega)) rfl ?_
          refine o_ev (ev_assign rfl) rfl ?_
          refine o_nil (sq_n (w_seq (w_region (?_))))
          refine o_st (st_build0 eB rfl) rfl ?_
          rintro _ _ ⟨s3, rfl, rfl⟩
          refine o_ev (ev_move rfl) rfl ?_
          refine o_st (st_append rfl rfl rfl rfl (by simp only [List.length_nil]; omega) (by simp only [List.length_nil]; omega)) rfl ?_
          rintro _ _ ⟨s4, rfl, rfl⟩
          refine o_ev (ev_assign rfl) rfl ?_
          refine o_nil (sq_n (w_seq (w_region (?_))))
          rw [List.nil_append]
          refine o_ev (ev_move rfl) rfl ?_
          refine o_ev (ev_move rfl) rfl ?_
          refine o_ev (ev_indexAddr rfl rfl i rfl hil2) rfl ?_
          refine o_ev (ev_load_el rfl (by rfl) (by rfl) x hx) rfl ?_
          refine o_ev (ev_move rfl) rfl ?_
          refine o_ev (ev_convE rfl ((w64 wi : Nat) : Int) (wrap_u64 wi)) rfl ?_
          refine o_ev (ev_rem rfl rfl (w64 wi) 255 rfl rfl (by omega)) rfl ?_
          rw [← hd]
          refine o_ev (ev_conv64 rfl (by omega)) rfl ?_
          refine o_ev (ev_add rfl rfl (by omega)) rfl ?_
          refine o_ev (ev_convL 256 rfl rfl rfl (1 + d) (by omega) (by omega)) rfl ?_
          refine o_ev (ev_xorM 256 rfl rfl rfl rfl x (1 + d) rfl rfl hxb (by omega)) rfl ?_
          refine o_ev (ev_indexAddr rfl rfl i rfl hil2) rfl ?_
          refine o_st (st_store_el rfl rfl (by rfl) hil2) rfl ?_
          rintro _ _ ⟨rfl, rfl⟩
          refine o_nil (sq_n (w_seq (w_region (?_))))
          refine o_ev (ev_move rfl) rfl ?_
          refine o_st (st_call (vs := [_]) rfl (stUnpackN hun (by omega) hcb)) rfl ?_
          rintro _ _ ⟨rfl, rfl⟩
          refine o_ev (ev_move rfl) rfl ?_
          refine o_ev (ev_extract1 rfl rfl) rfl ?_
          refine o_ev (ev_extract1 rfl rfl) rfl ?_
          refine o_ev (ev_assign rfl) rfl ?_
          refine o_nil (sq_n (w_seq (w_seq (w_region (?_)))))
          refine o_ev (ev_move rfl) rfl ?_
          refine o_st (st_call (vs := [_]) rfl (numErr 10)) rfl ?_
          rintro _ _ ⟨rfl, rfl⟩
          refine o_ev (ev_neq rfl rfl) rfl ?_
          refine o_split (ev_move rfl) rfl (fun h3 => ?_) (fun h3 => ?_)
          · skip
            skip
            exact absurd h3 (by decide) -- DONE
          · skip
            skip
            refine o_on_ev rfl rfl rfl (ev_move rfl) ?_
            refine o_on rfl rfl rfl (st_call (vs := [_, _, _]) rfl (refErr (by omega) hcb hun)) ?_
            rintro _ _ ⟨rfl, rfl⟩
            refine o_on_ev rfl rfl rfl (ev_not rfl) ?_
            refine o_ev (ev_pick_f rfl rfl) rfl ?_
            refine o_nil (sq_n (?_))
            refine w_if rfl (fun h4 => ?_) (fun h4 => ?_)
            · skip
              skip
              exact absurd h4 (by decide) -- DONE
            · skip
              skip
              refine w_skip (sq_n (w_seq (w_region (?_))))
              refine o_ev (ev_move rfl) rfl ?_
              refine o_st (st_call (vs := [_]) rfl (stUnpackO hu (by omega) hib)) rfl ?_
              rintro _ _ ⟨lp3, F3, sf3, sp3, hP3, rfl, rfl⟩
              · skip
                refine o_ev (ev_move rfl) rfl ?_
                refine o_ev (ev_extract1 rfl rfl) rfl ?_
                refine o_ev (ev_extract1 rfl rfl) rfl ?_
                refine o_st (st_alloc) rfl ?_
                rintro _ _ ⟨b8, rfl, rfl⟩
                refine o_st (st_store rfl rfl rfl) rfl ?_
                rintro _ _ ⟨rfl, rfl⟩
                refine o_ev (ev_assign rfl) rfl ?_
                refine o_nil (sq_n (w_seq (w_region (?_))))
                refine o_ev (ev_move rfl) rfl ?_
                refine o_ev (ev_eql_nil_nil rfl) rfl ?_
                refine o_ev (ev_move rfl) rfl ?_
                refine o_on_ev rfl rfl rfl (ev_loadS rfl) ?_
                refine o_on_ev rfl rfl rfl (ev_loadS rfl) ?_
                refine o_on rfl rfl rfl (st_call (vs := [_, _]) rfl (sameIx (ps := ps) (ps2 := ps) (hP3.ext (fun _ _ h => inferInstance) (fun _ _ h => inferInstance)) (hP.ext (fun _ _ h => inferInstance) (fun _ _ h => inferInstance)) (fun p hp => (hk p hp).1) (fun p hp => (hk p hp).1) (fun p hp => by have := (hk p hp).2.2.2; omega) (by omega) (by omega))) ?_
                rintro _ _ ⟨rfl, rfl⟩
                refine o_ev (ev_pick_t rfl rfl) rfl ?_
                refine o_ev (ev_assign rfl) rfl ?_
                refine o_nil (sq_n (w_ret (?_)))
                refine res_intro (vs := [_]) Tryz.results5 (.inr rfl) (.cons (.tmp rfl) (.nil)) ?_
                exact ⟨_, by (repeat (first | exact Ka | refine Kb ?_ | refine Kc ?_ | refine Kf ?_ | refine Kd ?_ | refine Ke ?_ | refine Kh ?_ | refine Kg rfl ?_ | refine Ki ?_ | refine Kj ?_ | refine Kk ?_ | refine Kl ?_ | refine Km ?_ | refine Kn ?_ | refine Ko ?_)), by rw [decide_eq_true ⟨rfl, rfl, rfl⟩]; rfl, rfl⟩
theorem lawFlip {G : Base} {H : Heap} {sf sp : SV} {fs : List FV} {lp : List (SV × SV)} {ps : Pcs} {n i j : Int} [hg : Glb G H] [ErrT G] [Tab H 26 zipT] [Tab H 24 sealT] [Sl H sf eF fs] [hsp : Sl H sp eP lp] (hP : PsIn H lp ps) (hk : OkPs ps) (hn : fs.length ≤ 1000000000) (hf : ∀ f ∈ fs, f.name.size ≤ 1000000000000) (hpl : ps.length ≤ 100000000) (hsum : psLen ps ≤ 900000000) :
    SC G Tryz.prog 5 [.agg [sf.val, .int .i64 n, sp.val].toArray, .int .i64 i, .int .i64 j] H (fun v H' => v = .bool true ∧ H' = H) := by
  cases he : packE fs n ps with
  | error e => exact lawFlipE he hP hk hn hf hpl hsum
  | ok img => exact lawFlipO he hP hk hn hf hpl hsum
end Go.Sx
