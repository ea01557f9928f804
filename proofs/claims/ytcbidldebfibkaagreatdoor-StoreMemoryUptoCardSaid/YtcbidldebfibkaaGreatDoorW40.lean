import Derived.Test.YtcbidldebfibkaaGreatDoorW39
set_option linter.unusedVariables false
set_option linter.unusedSimpArgs false
set_option linter.unusedSectionVars false
set_option linter.unnecessarySimpa false
namespace Go.Sx
open Go Go.Proofs
set_option maxRecDepth 100000
set_option linter.unusedSimpArgs false
set_option linter.unusedVariables false

/-! ## StoreMemory -/
theorem stUnpackC {G : Base} {H : Heap} {s : SV} {xs : List Nat} {fs : List FV} {ps : Pcs} {n : Nat} [hg : Glb G H] [Tab H 26 zipT] [Tab H 24 sealT] [hs : Sl H s eB xs] (hu : unE xs = some (fs, n, ps)) (hn : xs.length ≤ 1000000000) (hb : ∀ x ∈ xs, x < 256) : SC G Tryz.prog 15 [s.val] H (fun v H' =>
    ∃ lp, ∃ sf sp : SV, lp.length = ps.length ∧ v = .tuple #[.agg [sf.val, .int .i64 ((n : Nat) : Int), sp.val].toArray, .nilIface] ∧ H' = Row sf eF fs :: Row sp eP lp :: Cl pcF (lp.zip ps) :: H) :=
  SC.out ((stUnpackR hn hb).mono fun v H' h => by
    rcases h with ⟨he, _⟩ | ⟨fs', n', ps', lp, F, sf, sp, he, hP, hO, h1, h2⟩
    · rw [hu] at he; cases he
    · rw [hu] at he
      simp only [Option.some.injEq, Prod.mk.injEq] at he
      obtain ⟨rfl, rfl, rfl⟩ := he
      subst h2
      exact ⟨_, HSub.keep (HSub.keep (HSub.unstar.trans ((HSub.frame hO).trans (HSub.star Ka)))), lp, sf, sp, hP.1, h1, rfl⟩)
theorem lawMemE {G : Base} {H : Heap} {sf sp : SV} {fs : List FV} {lp : List (SV × SV)} {ps : Pcs} {n : Int} [hg : Glb G H] [ErrT G] [Tab H 26 zipT] [Tab H 24 sealT] [Sl H sf eF fs] [hsp : Sl H sp eP lp] {e : Nat} (he : packE fs n ps = .error e) (hP : PsIn H lp ps) (hk : OkPs ps) (hn : fs.length ≤ 1000000000) (hf : ∀ f ∈ fs, f.name.size ≤ 1000000000000) (hpl : ps.length ≤ 10000000) (hsum : psLen ps ≤ 900000000) :
    SC G Tryz.prog 4 [.agg [sf.val, .int .i64 n, sp.val].toArray] H (fun v H' => v = .bool true ∧ H' = H) := by
  have h24 := packE_lt he
  have hne := numE_ne ⟨e, h24⟩
  refine SC.out (sc_walk Tryz.func4 rfl Tryz.ntmps4 (by kernel_rfl) (Nat.le_of_ble_eq_true rfl) ?_)
  refine w_seq (w_region (?_))
  refine o_st (st_box rfl) rfl ?_
  rintro _ _ ⟨b1, rfl, rfl⟩
  refine o_ev (ev_assign rfl) rfl ?_
  refine o_nil (sq_n (w_seq (w_seq (w_region (?_)))))
  refine o_st (st_call (vs := []) rfl (fixedOk)) rfl ?_
  rintro _ _ ⟨rfl, rfl⟩
  refine o_ev (ev_not rfl) rfl ?_
  refine o_nil (sq_n (?_))
  refine w_if rfl (fun h1 => ?_) (fun h1 => ?_)
  · skip
    skip
    exact absurd h1 (by decide) -- DONE
  · skip
    skip
    refine w_skip (sq_n (w_seq (w_region (?_))))
    refine o_ev (ev_loadS rfl) rfl ?_
    refine o_st (st_call (vs := [_]) rfl (refPackE he (hP.ext (fun _ _ h => inferInstance) (fun _ _ h => inferInstance)) hk hn hf (by omega) hsum)) rfl ?_
    rintro _ _ ⟨rfl, rfl⟩
    refine o_ev (ev_move rfl) rfl ?_
    refine o_ev (ev_extract1 rfl rfl) rfl ?_
    refine o_ev (ev_extract1 rfl rfl) rfl ?_
    refine o_ev (ev_assign rfl) rfl ?_
    refine o_ev (ev_assign rfl) rfl ?_
    refine o_nil (sq_n (w_seq (w_seq (w_region (?_)))))
    refine o_ev (ev_move rfl) rfl ?_
    refine o_ev (ev_neq rfl rfl) rfl ?_
    refine o_nil (sq_n (?_))
    refine w_if rfl (fun h2 => ?_) (fun h2 => ?_)
    · skip
      skip
      refine w_seq (w_region (?_))
      refine o_ev (ev_assign rfl) rfl ?_
      refine o_nil (sq_n (w_ret (sq_r (?_))))
      refine res_intro (vs := [_]) Tryz.results4 (.inr rfl) (.cons (.tmp rfl) (.nil)) ?_
      exact ⟨_, by (repeat (first | exact Ka | refine Kb ?_ | refine Kc ?_ | refine Kf ?_ | refine Kd ?_ | refine Ke ?_ | refine Kh ?_ | refine Kg rfl ?_ | refine Ki ?_ | refine Kj ?_ | refine Kk ?_ | refine Kl ?_ | refine Km ?_ | refine Kn ?_ | refine Ko ?_)), rfl, rfl⟩
    · skip
      skip
      exact absurd hne (of_decide_eq_false h2) -- DONE
theorem lawMemO {G : Base} {H : Heap} {sf sp : SV} {fs : List FV} {lp : List (SV × SV)} {ps : Pcs} {n : Int} [hg : Glb G H] [ErrT G] [Tab H 26 zipT] [Tab H 24 sealT] [Sl H sf eF fs] [hsp : Sl H sp eP lp] {img : List Nat} (he : packE fs n ps = .ok img) (hP : PsIn H lp ps) (hk : OkPs ps) (hn : fs.length ≤ 1000000000) (hf : ∀ f ∈ fs, f.name.size ≤ 1000000000000) (hpl : ps.length ≤ 9000000) (hsum : psLen ps ≤ 900000000) :
    SC G Tryz.prog 4 [.agg [sf.val, .int .i64 n, sp.val].toArray] H (fun v H' => v = .bool true ∧ H' = H) := by
  obtain ⟨hu, hn0, hn1, hc⟩ := un_pack hk (by omega) he
  obtain ⟨hil, hib⟩ := pack_len hk (by omega) he
  obtain ⟨m, rfl⟩ : ∃ m : Nat, n = m := ⟨n.toNat, by omega⟩
  rw [Int.toNat_natCast] at hu
  obtain ⟨hlen, hin⟩ := hP
  refine SC.out (sc_walk Tryz.func4 rfl Tryz.ntmps4 (by kernel_rfl) (Nat.le_of_ble_eq_true rfl) ?_)
  refine w_seq (w_region (?_))
  refine o_st (st_box rfl) rfl ?_
  rintro _ _ ⟨b1, rfl, rfl⟩
  refine o_ev (ev_assign rfl) rfl ?_
  refine o_nil (sq_n (w_seq (w_seq (w_region (?_)))))
  refine o_st (st_call (vs := []) rfl (fixedOk)) rfl ?_
  rintro _ _ ⟨rfl, rfl⟩
  refine o_ev (ev_not rfl) rfl ?_
  refine o_nil (sq_n (?_))
  refine w_if rfl (fun h1 => ?_) (fun h1 => ?_)
  · skip
    skip
    exact absurd h1 (by decide) -- DONE
  · skip
    skip
    refine w_skip (sq_n (w_seq (w_region (?_))))
    refine o_ev (ev_loadS rfl) rfl ?_
    refine o_st (st_call (vs := [_]) rfl (refPackO he (PsIn.ext ⟨hlen, hin⟩ (fun _ _ h => inferInstance) (fun _ _ h => inferInstance)) hk hn hf (by omega) hsum)) rfl ?_
    rintro _ _ ⟨s1, rfl, rfl⟩
    · skip
      refine o_ev (ev_move rfl) rfl ?_
      refine o_ev (ev_extract1 rfl rfl) rfl ?_
      refine o_ev (ev_extract1 rfl rfl) rfl ?_
      refine o_ev (ev_assign rfl) rfl ?_
      refine o_ev (ev_assign rfl) rfl ?_
      refine o_nil (sq_n (w_seq (w_seq (w_region (?_)))))
      refine o_ev (ev_move rfl) rfl ?_
      refine o_ev (ev_neq rfl rfl) rfl ?_
      refine o_nil (sq_n (?_))
      refine w_if_false rfl (w_skip (sq_n (w_seq (w_region (?_)))))
      refine o_ev (ev_loadS rfl) rfl ?_
      refine o_st (st_call (vs := [_]) rfl (copiedIx (PsIn.ext ⟨hlen, hin⟩ (fun _ _ h => inferInstance) (fun _ _ h => inferInstance)) hn (by omega) hk)) rfl ?_
      rintro _ _ ⟨lp2, F2, sf2, sp2, hP2, rfl, rfl⟩
      refine o_st (st_alloc) rfl ?_
      rintro _ _ ⟨b5, rfl, rfl⟩
      refine o_st (st_store rfl rfl rfl) rfl ?_
      rintro _ _ ⟨rfl, rfl⟩
      refine o_nil (sq_n (w_seq (w_region (?_))))
      refine o_ev (ev_assign rfl) rfl ?_
      refine o_nil (sq_n (w_seq (w_region (?_))))
      refine o_ev (ev_assign rfl) rfl ?_
      refine o_nil (sq_n (w_seq (w_seq (w_region (?_)))))
      refine o_ev (ev_fieldAddr rfl) rfl ?_
      refine o_ev (ev_load rfl) rfl ?_
      have hl2 := hP2.1
      refine o_ev (ev_len1 rfl) rfl ?_
      refine o_ev (ev_move rfl) rfl ?_
      refine o_nil (sq_n (w_block (?_)))
      refine w_loop (SV × SV × List (SV × SV) × List (SV × SV)) (fun y => y.2.2.1.length ≤ ps.length ∧ Lq y.2.2.1 ps y.2.2.2) (fun y => [(1, .pointer (some ⟨b1, 0, none⟩)), (3, s1.val), (5, .pointer (some ⟨b5, 0, none⟩)), (6, y.1.val), (7, y.2.1.val), (43, .int .i64 ((lp2.length : Nat) : Int)), (44, .int .i64 ((y.2.2.1.length : Nat) : Int))]) (fun y => Vr b5 [sf2.val, .int .i64 ((m : Nat) : Int), sp2.val] :: Row sp2 eP y.2.2.2 :: Row sf2 eF fs :: Row y.1 eSV (y.2.2.1.map (·.1)) :: Row y.2.1 eSV (y.2.2.1.map (·.2)) :: Cl memF (y.2.2.1.zip ps) :: Row s1 eB img :: Vr b1 [sf.val, .int .i64 ((m : Nat) : Int), sp.val] :: H) (fun y => ps.length - y.2.2.1.length) ((SV.nil, SV.nil, [], lp2)) ?_ ?_ ?_ ?_
      · (try dsimp only)
        exact ⟨Nat.zero_le _, hP2.1, fun j x q h => by simp at h⟩
      · repeat (first | exact Sub.nil | refine Sub.cons rfl ?_)
      · (try dsimp only)
        exact HSub.trans (H' := Vr b5 [sf2.val, .int .i64 ((m : Nat) : Int), sp2.val] :: Row sp2 eP lp2 :: Row sf2 eF fs :: Row SV.nil eSV [] :: Row SV.nil eSV [] :: Row s1 eB img :: Vr b1 [sf.val, .int .i64 ((m : Nat) : Int), sp.val] :: H) (by (repeat (first | exact Ka | refine Kb ?_ | refine Kc ?_ | refine Kf ?_ | refine Kd ?_ | refine Ke ?_ | refine Kh ?_ | refine Kg rfl ?_ | refine Ki ?_ | refine Kj ?_ | refine Kk ?_ | refine Kl ?_ | refine Km ?_ | refine Kn ?_ | refine Ko ?_))) (HSub.keep (HSub.keep (HSub.keep (HSub.keep (HSub.keep (HSub.clNil Ka))))))
      · rintro ⟨s6, s7, fl, lq⟩ ⟨hfl, hq⟩
        (try dsimp only at *)
        refine w_seq (w_region (?_))
        refine o_ev (ev_lss rfl rfl) rfl ?_
        refine o_nil (sq_n (w_seq (?_)))
        refine w_if rfl (fun h2 => ?_) (fun h2 => ?_)
        · skip
          try simp only [Za, Zb, Zc, Zd, Ze, Zf, Zg, Zh] at h2
          obtain ⟨p, hp⟩ : ∃ p, lp[fl.length]? = some p := ⟨_, List.getElem?_eq_getElem (by omega)⟩
          obtain ⟨q, hq0⟩ : ∃ q, ps[fl.length]? = some q := ⟨_, List.getElem?_eq_getElem (by omega)⟩
          obtain ⟨Sp1, Sp2⟩ := hin fl.length p q hp hq0
          obtain ⟨o1, o2, o3, o4⟩ := hk q (List.mem_of_getElem? hq0)
          have hql := hq.l1
          have hm1 : (fl.map (·.1)).length = fl.length := List.length_map ..
          have hm2 : (fl.map (·.2)).length = fl.length := List.length_map ..
          refine w_skip (sq_n (w_seq (w_block (w_seq (w_region (?_))))))
          refine o_ev (ev_move rfl) rfl ?_
          refine o_ev (ev_assign rfl) rfl ?_
          refine o_nil (sq_n (w_seq (w_region (?_))))
          refine o_ev (ev_fieldAddr rfl) rfl ?_
          refine o_ev (ev_load rfl) rfl ?_
          refine o_ev (ev_move rfl) rfl ?_
          refine o_ev (ev_indexAddr rfl rfl fl.length rfl (by omega)) rfl ?_
          refine o_ev (ev_fieldAddr_elt rfl (by omega)) rfl ?_
          refine o_ev (ev_load_fl rfl (by rfl) p hp (by rfl)) rfl ?_
          refine o_st (st_call (vs := [_]) rfl (spareB (xs := q.1) (by omega))) rfl ?_
          rintro _ _ ⟨f1, rfl, rfl⟩
          refine o_ev (ev_move rfl) rfl ?_
          refine o_ev (ev_extract1 rfl rfl) rfl ?_
          refine o_ev (ev_extract1 rfl rfl) rfl ?_
          refine o_ev (ev_assign rfl) rfl ?_
          refine o_ev (ev_assign rfl) rfl ?_
          refine o_nil (sq_n (w_seq (w_region (?_))))
          refine o_ev (ev_fieldAddr rfl) rfl ?_
          refine o_ev (ev_load rfl) rfl ?_
          refine o_ev (ev_move rfl) rfl ?_
          refine o_ev (ev_indexAddr rfl rfl fl.length rfl (by omega)) rfl ?_
          refine o_ev (ev_fieldAddr_elt rfl (by omega)) rfl ?_
          refine o_ev (ev_load_fl rfl (by rfl) p hp (by rfl)) rfl ?_
          refine o_st (st_call (vs := [_]) rfl (spareI (xs := q.2) (by omega))) rfl ?_
          rintro _ _ ⟨g1, rfl, rfl⟩
          refine o_ev (ev_move rfl) rfl ?_
          refine o_ev (ev_extract1 rfl rfl) rfl ?_
          refine o_ev (ev_extract1 rfl rfl) rfl ?_
          refine o_ev (ev_assign rfl) rfl ?_
          refine o_ev (ev_assign rfl) rfl ?_
          refine o_nil (sq_n (w_seq (w_region (?_))))
          refine o_ev (ev_fieldAddr rfl) rfl ?_
          refine o_ev (ev_load rfl) rfl ?_
          refine o_ev (ev_move rfl) rfl ?_
          refine o_ev (ev_move rfl) rfl ?_
          refine o_ev (ev_move rfl) rfl ?_
          refine o_ev (ev_build (vs := [(0, _), (1, _)]) rfl) rfl ?_
          refine o_ev (ev_indexAddr rfl rfl fl.length rfl (by omega)) rfl ?_
          refine o_st (st_store_el (a := (f1.cut 1 0 q.1.length, g1.cut 1 0 q.2.length)) rfl rfl (by rfl) (by omega)) rfl ?_
          rintro _ _ ⟨rfl, rfl⟩
          refine o_nil (sq_n (w_region (?_)))
          refine o_ev (ev_move rfl) rfl ?_
          refine o_ev (ev_move rfl) rfl ?_
          refine o_st (st_build1 eSV rfl rfl) rfl ?_
          rintro _ _ ⟨s8, rfl, rfl⟩
          refine o_st (st_append rfl rfl rfl rfl (by simp only [hm1, List.length_cons, List.length_nil]; omega) (by simp only [hm1, List.length_cons, List.length_nil]; omega)) rfl ?_
          rintro _ _ ⟨s9, rfl, rfl⟩
          refine o_ev (ev_move rfl) rfl ?_
          refine o_ev (ev_move rfl) rfl ?_
          refine o_st (st_build1 eSV rfl rfl) rfl ?_
          rintro _ _ ⟨s10, rfl, rfl⟩
          refine o_st (st_append rfl rfl rfl rfl (by simp only [hm2, List.length_cons, List.length_nil]; omega) (by simp only [hm2, List.length_cons, List.length_nil]; omega)) rfl ?_
          rintro _ _ ⟨s11, rfl, rfl⟩
          refine o_ev (ev_assign rfl) rfl ?_
          refine o_ev (ev_assign rfl) rfl ?_
          refine o_nil (bk_n (sq_n (w_region (?_))))
          refine o_ev (ev_add rfl rfl (by omega)) rfl ?_
          refine o_ev (ev_move rfl) rfl ?_
          refine o_nil (?_)
          skip
          refine lq_n ((s9, s11, fl ++ [(f1, g1)], lq.set fl.length (pv (f1, g1) q))) ?_ ?_ ?_ ?_
          · (try dsimp only)
            exact ⟨by rw [List.length_append, List.length_singleton]; omega, hq.snoc hq0⟩
          · (try dsimp only)
            rw [List.length_append, List.length_singleton]; omega
          · (try rw [show (fl ++ [(f1, g1)]).length = fl.length + 1 from List.length_append ..]); repeat (first | exact Sub.nil | refine Sub.cons rfl ?_)
          · (try dsimp only)
            rw [zip_snoc hq0, List.map_append, List.map_append]
            exact HSub.trans (H' := Row f1 eB (q.1 ++ mkB 80) :: Row g1 eI (q.2 ++ mkI 80) :: Cl memF (fl.zip ps) :: Vr b5 [sf2.val, .int .i64 ((m : Nat) : Int), sp2.val] :: Row sp2 eP (lq.set fl.length (pv (f1, g1) q)) :: Row sf2 eF fs :: Row s9 eSV (fl.map (·.1) ++ [f1]) :: Row s11 eSV (fl.map (·.2) ++ [g1]) :: Row s1 eB img :: Vr b1 [sf.val, .int .i64 ((m : Nat) : Int), sp.val] :: H) (by (repeat (first | exact Ka | refine Kb ?_ | refine Kc ?_ | refine Kf ?_ | refine Kd ?_ | refine Ke ?_ | refine Kh ?_ | refine Kg rfl ?_ | refine Ki ?_ | refine Kj ?_ | refine Kk ?_ | refine Kl ?_ | refine Km ?_ | refine Kn ?_ | refine Ko ?_))) (HSub.trans (cl_snoc (f := memF) ((f1, g1), q)) (by (repeat (first | exact Ka | refine Kb ?_ | refine Kc ?_ | refine Kf ?_ | refine Kd ?_ | refine Ke ?_ | refine Kh ?_ | refine Kg rfl ?_ | refine Ki ?_ | refine Kj ?_ | refine Kk ?_ | refine Kl ?_ | refine Km ?_ | refine Kn ?_ | refine Ko ?_))))
        · skip
          try simp only [Za, Zb, Zc, Zd, Ze, Zf, Zg, Zh] at h2
          have hfe : fl.length = ps.length := by omega
          have hql := hq.l1
          have hin2 : PsIn (Cl memF (fl.zip ps) :: Row s1 eB img :: Vr b1 [sf.val, .int .i64 ((m : Nat) : Int), sp.val] :: H) lq ps := hq.in_ hfe
          have hm1 : (fl.map (·.1)).length = fl.length := List.length_map ..
          have hm2 : (fl.map (·.2)).length = fl.length := List.length_map ..
          refine w_exit (sq_e (lq_e (bk_h (sq_n (w_seq (w_region (?_)))))))
          refine o_ev (ev_loadS rfl) rfl ?_
          refine o_st (st_call (vs := [_]) rfl (stPackO he (hin2.ext (fun _ _ h => inferInstance) (fun _ _ h => inferInstance)) hk hn hf (by omega) hsum)) rfl ?_
          rintro _ _ ⟨s2, rfl, rfl⟩
          · skip
            refine o_ev (ev_move rfl) rfl ?_
            refine o_ev (ev_extract1 rfl rfl) rfl ?_
            refine o_ev (ev_extract1 rfl rfl) rfl ?_
            refine o_ev (ev_assign rfl) rfl ?_
            refine o_ev (ev_assign rfl) rfl ?_
            refine o_nil (sq_n (w_seq (w_region (?_))))
            refine o_ev (ev_loadS rfl) rfl ?_
            refine o_st (st_call (vs := [_]) rfl (stPackO he (hin2.ext (fun _ _ h => inferInstance) (fun _ _ h => inferInstance)) hk hn hf (by omega) hsum)) rfl ?_
            rintro _ _ ⟨s3, rfl, rfl⟩
            · skip
              refine o_ev (ev_move rfl) rfl ?_
              refine o_ev (ev_extract1 rfl rfl) rfl ?_
              refine o_ev (ev_extract1 rfl rfl) rfl ?_
              refine o_ev (ev_assign rfl) rfl ?_
              refine o_ev (ev_assign rfl) rfl ?_
              refine o_nil (sq_n (w_seq (w_seq (w_region (?_)))))
              refine o_ev (ev_move rfl) rfl ?_
              refine o_ev (ev_neq_nil_nil rfl) rfl ?_
              refine o_ev (ev_move rfl) rfl ?_
              refine o_on_ev rfl rfl rfl (ev_move rfl) ?_
              refine o_on_ev rfl rfl rfl (ev_neq_nil_nil rfl) ?_
              refine o_ev (ev_pick_f rfl rfl) rfl ?_
              refine o_nil (sq_n (?_))
              refine w_if_false rfl (w_skip (sq_n (w_seq (w_seq (w_region (?_))))))
              refine o_ev (ev_fieldAddr rfl) rfl ?_
              refine o_ev (ev_load rfl) rfl ?_
              refine o_ev (ev_len1 rfl) rfl ?_
              refine o_ev (ev_move rfl) rfl ?_
              refine o_nil (sq_n (w_block (?_)))
              refine w_loop (Nat) (fun i => i ≤ lp.length) (fun i => [(1, .pointer (some ⟨b1, 0, none⟩)), (3, s1.val), (5, .pointer (some ⟨b5, 0, none⟩)), (6, s6.val), (7, s7.val), (13, s2.val), (15, s3.val), (100, sp.val), (101, .int .i64 ((lp.length : Nat) : Int)), (102, .int .i64 ((i : Nat) : Int))]) (fun _ => Row s3 eB img :: Row s2 eB img :: Vr b5 [sf2.val, .int .i64 ((m : Nat) : Int), sp2.val] :: Row sp2 eP lq :: Row sf2 eF fs :: Row s6 eSV (fl.map (·.1)) :: Row s7 eSV (fl.map (·.2)) :: Cl memF (fl.zip ps) :: Row s1 eB img :: Vr b1 [sf.val, .int .i64 ((m : Nat) : Int), sp.val] :: H) (fun i => lp.length - i) (0) ?_ ?_ ?_ ?_
              · (try dsimp only)
                exact Nat.zero_le _
              · repeat (first | exact Sub.nil | refine Sub.cons rfl ?_)
              · (try dsimp only)
                (repeat (first | exact Ka | refine Kb ?_ | refine Kc ?_ | refine Kf ?_ | refine Kd ?_ | refine Ke ?_ | refine Kh ?_ | refine Kg rfl ?_ | refine Ki ?_ | refine Kj ?_ | refine Kk ?_ | refine Kl ?_ | refine Km ?_ | refine Kn ?_ | refine Ko ?_))
              · rintro i hi
                (try dsimp only at *)
                refine w_seq (w_region (?_))
                refine o_ev (ev_lss rfl rfl) rfl ?_
                refine o_nil (sq_n (w_seq (?_)))
                refine w_if rfl (fun h3 => ?_) (fun h3 => ?_)
                · skip
                  try simp only [Za, Zb, Zc, Zd, Ze, Zf, Zg, Zh] at h3
                  obtain ⟨p, hp⟩ : ∃ p, lp[i]? = some p := ⟨_, List.getElem?_eq_getElem (by omega)⟩
                  obtain ⟨q, hq0⟩ : ∃ q, ps[i]? = some q := ⟨_, List.getElem?_eq_getElem (by omega)⟩
                  obtain ⟨x, hx⟩ : ∃ x, fl[i]? = some x := ⟨_, List.getElem?_eq_getElem (by omega)⟩
                  obtain ⟨Sp1, Sp2⟩ := hin i p q hp hq0
                  obtain ⟨o1, o2, o3, o4⟩ := hk q (List.mem_of_getElem? hq0)
                  have hx1 : (fl.map (·.1))[i]? = some x.1 := by rw [List.getElem?_map, hx]; rfl
                  have hx2 : (fl.map (·.2))[i]? = some x.2 := by rw [List.getElem?_map, hx]; rfl
                  obtain ⟨Sx1, Sx2⟩ := mem_at (R := Row s1 eB img :: Vr b1 [sf.val, .int .i64 ((m : Nat) : Int), sp.val] :: H) hx hq0
                  refine w_skip (sq_n (w_seq (w_block (w_seq (w_region (?_))))))
                  refine o_ev (ev_move rfl) rfl ?_
                  refine o_ev (ev_indexAddr rfl rfl i rfl (by omega)) rfl ?_
                  refine o_ev (ev_loadS_el rfl (by rfl) (by rfl) p hp) rfl ?_
                  refine o_st (st_alloc) rfl ?_
                  rintro _ _ ⟨b18, rfl, rfl⟩
                  refine o_ev (ev_assign rfl) rfl ?_
                  refine o_st (st_store rfl rfl rfl) rfl ?_
                  rintro _ _ ⟨rfl, rfl⟩
                  refine o_nil (sq_n (w_seq (?_)))
                  refine w_still Tryz_mixed ?_
                  refine an_first 0 rfl rfl (by kernel_rfl) rfl (qv_at (ev_move rfl)) ?_
                  refine an_first 1 rfl rfl (by kernel_rfl) rfl (qv_at (ev_move rfl)) ?_
                  refine an_first 2 rfl rfl (by kernel_rfl) rfl (qv_at (ev_indexAddr rfl rfl i rfl (by omega))) ?_
                  refine an_first 3 rfl rfl (by kernel_rfl) rfl (qv_at (ev_load_el rfl (by rfl) (by rfl) x.1 hx1)) ?_
                  refine an_first 4 rfl rfl (by kernel_rfl) rfl (qv_at (ev_fieldAddr rfl)) ?_
                  refine an_first 5 rfl rfl (by kernel_rfl) rfl (qv_at (ev_load rfl)) ?_
                  refine an_first 6 rfl rfl (by kernel_rfl) rfl (qv_call (vs := [_, _]) rfl (keptB (xs := q.1) (by omega))) ?_
                  refine an_first 7 rfl rfl (by kernel_rfl) rfl (qv_at (ev_not rfl)) ?_
                  refine an_split 8 rfl rfl (by kernel_rfl) rfl (qv_at (ev_move rfl)) (fun h4 => ?_) (fun h4 => ?_)
                  · skip
                    skip
                    exact absurd h4 (by simp) -- DONE
                  · skip
                    skip
                    refine an_on 9 rfl rfl rfl rfl (by kernel_rfl) rfl (qv_at (ev_move rfl)) ?_
                    refine an_on 10 rfl rfl rfl rfl (by kernel_rfl) rfl (qv_at (ev_move rfl)) ?_
                    refine an_on 11 rfl rfl rfl rfl (by kernel_rfl) rfl (qv_at (ev_indexAddr rfl rfl i rfl (by omega))) ?_
                    refine an_on 12 rfl rfl rfl rfl (by kernel_rfl) rfl (qv_at (ev_load_el rfl (by rfl) (by rfl) x.2 hx2)) ?_
                    refine an_on 13 rfl rfl rfl rfl (by kernel_rfl) rfl (qv_at (ev_fieldAddr rfl)) ?_
                    refine an_on 14 rfl rfl rfl rfl (by kernel_rfl) rfl (qv_at (ev_load rfl)) ?_
                    refine an_on 15 rfl rfl rfl rfl (by kernel_rfl) rfl (qv_call (vs := [_, _]) rfl (keptI (xs := q.2) (by omega))) ?_
                    refine an_on 16 rfl rfl rfl rfl (by kernel_rfl) rfl (qv_at (ev_not rfl)) ?_
                    refine an_first 17 rfl rfl (by kernel_rfl) rfl (qv_at (ev_pick_f rfl rfl)) ?_
                    refine an_nil (by kernel_rfl) (fun _ _ => rfl) (sq_n (?_))
                    refine w_if rfl (fun h5 => ?_) (fun h5 => ?_)
                    · skip
                      skip
                      exact absurd h5 (by simp) -- DONE
                    · skip
                      skip
                      refine w_skip (bk_n (sq_n (w_region (?_))))
                      refine o_ev (ev_add rfl rfl (by omega)) rfl ?_
                      refine o_ev (ev_move rfl) rfl ?_
                      refine o_nil (?_)
                      skip
                      refine lq_n (i + 1) ?_ ?_ ?_ ?_
                      · (try dsimp only)
                        omega
                      · (try dsimp only)
                        omega
                      · repeat (first | exact Sub.nil | refine Sub.cons rfl ?_)
                      · (try dsimp only)
                        (repeat (first | exact Ka | refine Kb ?_ | refine Kc ?_ | refine Kf ?_ | refine Kd ?_ | refine Ke ?_ | refine Kh ?_ | refine Kg rfl ?_ | refine Ki ?_ | refine Kj ?_ | refine Kk ?_ | refine Kl ?_ | refine Km ?_ | refine Kn ?_ | refine Ko ?_))
                · skip
                  try simp only [Za, Zb, Zc, Zd, Ze, Zf, Zg, Zh] at h3
                  refine w_exit (sq_e (lq_e (bk_h (sq_n (w_seq (w_region (?_)))))))
                  refine o_ev (ev_loadS rfl) rfl ?_
                  refine o_hsub (H' := Row sf2 eF fs :: Row sp2 eP lq :: Cl pcF (lq.zip ps) :: Row s3 eB img :: Row s2 eB img :: Vr b5 [sf2.val, .int .i64 ((m : Nat) : Int), sp2.val] :: Row s1 eB img :: Vr b1 [sf.val, .int .i64 ((m : Nat) : Int), sp.val] :: H) (HSub.trans (H' := Cl memF (fl.zip ps) :: Row sf2 eF fs :: Row sp2 eP lq :: Row s3 eB img :: Row s2 eB img :: Vr b5 [sf2.val, .int .i64 ((m : Nat) : Int), sp2.val] :: Row s1 eB img :: Vr b1 [sf.val, .int .i64 ((m : Nat) : Int), sp.val] :: H) (by (repeat (first | exact Ka | refine Kb ?_ | refine Kc ?_ | refine Kf ?_ | refine Kd ?_ | refine Ke ?_ | refine Kh ?_ | refine Kg rfl ?_ | refine Ki ?_ | refine Kj ?_ | refine Kk ?_ | refine Kl ?_ | refine Km ?_ | refine Kn ?_ | refine Ko ?_))) (HSub.trans (hq.mem hfe) (by (repeat (first | exact Ka | refine Kb ?_ | refine Kc ?_ | refine Kf ?_ | refine Kd ?_ | refine Ke ?_ | refine Kh ?_ | refine Kg rfl ?_ | refine Ki ?_ | refine Kj ?_ | refine Kk ?_ | refine Kl ?_ | refine Km ?_ | refine Kn ?_ | refine Ko ?_))))) ?_
                  refine o_st (st_call (vs := [_]) rfl (spoilOk hql hf hn (by omega) hk)) rfl ?_
                  rintro _ _ ⟨fs9, hl9, hf9, rfl⟩
                  refine o_nil (sq_n (w_seq (w_seq (w_region (?_)))))
                  refine o_ev (ev_move rfl) rfl ?_
                  refine o_ev (ev_move rfl) rfl ?_
                  refine o_st (st_call (vs := [_, _]) rfl (bytesEq (xs := img) (ys := img) hib hib)) rfl ?_
                  rintro _ _ ⟨rfl, rfl⟩
                  refine o_ev (ev_not rfl) rfl ?_
                  refine o_split (ev_move rfl) rfl (fun h6 => ?_) (fun h6 => ?_)
                  · skip
                    skip
                    exact absurd h6 (by simp) -- DONE
                  · skip
                    skip
                    refine o_on_ev rfl rfl rfl (ev_move rfl) ?_
                    refine o_on_ev rfl rfl rfl (ev_move rfl) ?_
                    refine o_on rfl rfl rfl (st_call (vs := [_, _]) rfl (bytesEq (xs := img) (ys := img) hib hib)) ?_
                    rintro _ _ ⟨rfl, rfl⟩
                    refine o_on_ev rfl rfl rfl (ev_not rfl) ?_
                    refine o_ev (ev_pick_f rfl rfl) rfl ?_
                    refine o_nil (sq_n (?_))
                    refine w_if rfl (fun h7 => ?_) (fun h7 => ?_)
                    · skip
                      skip
                      exact absurd h7 (by simp) -- DONE
                    · skip
                      skip
                      refine w_skip (sq_n (w_seq (w_region (?_))))
                      refine o_ev (ev_loadS rfl) rfl ?_
                      have hnn : ∀ H : Heap, PsIn H (List.replicate lq.length (SV.nil, SV.nil)) (List.replicate lq.length ([], [])) := fun H => nil_in lq.length
                      have hnk := nil_ok lq.length
                      have hnl := nil_len lq.length
                      refine o_st (st_call (vs := [_]) rfl (copiedIx (hnn _) (by omega) (by rw [List.length_replicate]; omega) hnk)) rfl ?_
                      rintro _ _ ⟨lp5, F5, sf5, sp5, hP5, rfl, rfl⟩
                      refine o_st (st_call (vs := [_]) rfl (refPackX (hP5.ext (fun _ _ h => inferInstance) (fun _ _ h => inferInstance)) hnk (by omega) hf9 (by rw [List.length_replicate]; omega) (by omega))) rfl ?_
                      rintro _ _ ⟨s9, rfl, rfl⟩
                      refine o_ev (ev_move rfl) rfl ?_
                      refine o_ev (ev_extract1 rfl rfl) rfl ?_
                      refine o_ev (ev_extract1 rfl rfl) rfl ?_
                      refine o_ev (ev_assign rfl) rfl ?_
                      refine o_nil (sq_n (w_seq (w_region (?_))))
                      refine o_ev (ev_loadS rfl) rfl ?_
                      refine o_st (st_call (vs := [_]) rfl (stPackX (hnn _) hnk (by omega) hf9 (by rw [List.length_replicate]; omega) (by omega))) rfl ?_
                      rintro _ _ ⟨s10, rfl, rfl⟩
                      refine o_ev (ev_move rfl) rfl ?_
                      refine o_ev (ev_extract1 rfl rfl) rfl ?_
                      refine o_ev (ev_extract1 rfl rfl) rfl ?_
                      refine o_ev (ev_assign rfl) rfl ?_
                      refine o_nil (sq_n (w_seq (w_seq (w_region (?_)))))
                      refine o_ev (ev_move rfl) rfl ?_
                      refine o_st (st_call (vs := [_]) rfl (numPackX)) rfl ?_
                      rintro _ _ ⟨rfl, rfl⟩
                      refine o_ev (ev_move rfl) rfl ?_
                      refine o_ev (ev_neq rfl rfl) rfl ?_
                      refine o_nil (sq_n (?_))
                      refine w_if rfl (fun h8 => ?_) (fun h8 => ?_)
                      · skip
                        try simp only [Za, Zb, Zc, Zd, Ze, Zf, Zg, Zh] at h8
                        exact absurd h8 (by simp) -- DONE
                      · skip
                        try simp only [Za, Zb, Zc, Zd, Ze, Zf, Zg, Zh] at h8
                        refine w_skip (sq_n (w_seq (w_region (?_))))
                        refine o_ev (ev_move rfl) rfl ?_
                        refine o_st (st_call (vs := [_]) rfl (spareB (xs := img) (by omega))) rfl ?_
                        rintro _ _ ⟨rm, rfl, rfl⟩
                        refine o_ev (ev_move rfl) rfl ?_
                        refine o_ev (ev_extract1 rfl rfl) rfl ?_
                        refine o_ev (ev_extract1 rfl rfl) rfl ?_
                        refine o_ev (ev_assign rfl) rfl ?_
                        refine o_ev (ev_assign rfl) rfl ?_
                        refine o_nil (sq_n (w_seq (w_region (?_))))
                        refine o_ev (ev_move rfl) rfl ?_
                        haveI hsi : ∀ R : Heap, Sl (Row rm eB (img ++ mkB 80) :: R) (rm.cut 1 0 img.length) eB img := fun R => hd_slB inferInstance
                        refine o_st (st_call (vs := [_]) rfl (stUnpackC (s := rm.cut 1 0 img.length) hu (by omega) hib)) rfl ?_
                        rintro _ _ ⟨lpy, sfy, spy, hly, rfl, rfl⟩
                        · skip
                          refine o_ev (ev_move rfl) rfl ?_
                          refine o_ev (ev_extract1 rfl rfl) rfl ?_
                          refine o_ev (ev_extract1 rfl rfl) rfl ?_
                          refine o_st (st_alloc) rfl ?_
                          rintro _ _ ⟨b21, rfl, rfl⟩
                          refine o_st (st_store rfl rfl rfl) rfl ?_
                          rintro _ _ ⟨rfl, rfl⟩
                          refine o_ev (ev_assign rfl) rfl ?_
                          refine o_nil (sq_n (w_seq (w_region (?_))))
                          refine o_ev (ev_move rfl) rfl ?_
                          refine o_st (st_call (vs := [_]) rfl (stUnpackC (s := rm.cut 1 0 img.length) hu (by omega) hib)) rfl ?_
                          rintro _ _ ⟨lpz, sfz, spz, hlz, rfl, rfl⟩
                          · skip
                            refine o_ev (ev_move rfl) rfl ?_
                            refine o_ev (ev_extract1 rfl rfl) rfl ?_
                            refine o_ev (ev_extract1 rfl rfl) rfl ?_
                            refine o_st (st_alloc) rfl ?_
                            rintro _ _ ⟨b22, rfl, rfl⟩
                            refine o_st (st_store rfl rfl rfl) rfl ?_
                            rintro _ _ ⟨rfl, rfl⟩
                            refine o_ev (ev_assign rfl) rfl ?_
                            refine o_nil (sq_n (w_seq (w_seq (w_region (?_)))))
                            refine o_ev (ev_move rfl) rfl ?_
                            refine o_ev (ev_neq_nil_nil rfl) rfl ?_
                            refine o_ev (ev_move rfl) rfl ?_
                            refine o_on_ev rfl rfl rfl (ev_move rfl) ?_
                            refine o_on_ev rfl rfl rfl (ev_neq_nil_nil rfl) ?_
                            refine o_ev (ev_pick_f rfl rfl) rfl ?_
                            refine o_ev (ev_move rfl) rfl ?_
                            refine o_on_ev rfl rfl rfl (ev_move rfl) ?_
                            refine o_on_ev rfl rfl rfl (ev_move rfl) ?_
                            refine o_on rfl rfl rfl (st_call (vs := [_, _]) rfl (keptB (xs := img) (by omega))) ?_
                            rintro _ _ ⟨rfl, rfl⟩
                            refine o_on_ev rfl rfl rfl (ev_not rfl) ?_
                            refine o_ev (ev_pick_f rfl rfl) rfl ?_
                            refine o_nil (sq_n (?_))
                            refine w_if rfl (fun h9 => ?_) (fun h9 => ?_)
                            · skip
                              skip
                              exact absurd h9 (by simp) -- DONE
                            · skip
                              skip
                              refine w_skip (sq_n (w_seq (w_seq (w_region (?_)))))
                              refine o_ev (ev_move rfl) rfl ?_
                              refine o_ev (ev_len1 rfl) rfl ?_
                              have hrl : (img ++ mkB 80).length = img.length + 80 := by rw [List.length_append, mkB_len]
                              have hr0 : (img ++ mkB 80)[0]? = some 99 := by rw [List.getElem?_append_left (by have := un_len hu; omega)]; exact un_first hu
                              have hrb : ∀ x ∈ img ++ mkB 80, x < 256 := fun x hx => (List.mem_append.1 hx).elim (hib x) (mkB_lt 80 x)
                              refine o_ev (ev_move rfl) rfl ?_
                              refine o_nil (sq_n (w_block (?_)))
                              refine w_loop (List Nat × Nat) (fun y => y.2 ≤ img.length + 80 ∧ y.1.length = img.length + 80 ∧ (∀ x ∈ y.1, x < 256) ∧ (y.2 = 0 → y.1[0]? = some 99) ∧ (0 < y.2 → y.1[0]? = some 20)) (fun y => [(1, .pointer (some ⟨b1, 0, none⟩)), (13, s2.val), (15, s3.val), (19, (rm.cut 1 0 img.length).val), (20, rm.val), (21, .pointer (some ⟨b21, 0, none⟩)), (22, .pointer (some ⟨b22, 0, none⟩)), (181, .int .i64 ((img.length + 80 : Nat) : Int)), (182, .int .i64 ((y.2 : Nat) : Int))]) (fun y => Row rm eB y.1 :: Vr b22 [sfz.val, .int .i64 ((m : Nat) : Int), spz.val] :: Row sfz eF fs :: Row spz eP lpz :: Cl pcF (lpz.zip ps) :: Vr b21 [sfy.val, .int .i64 ((m : Nat) : Int), spy.val] :: Row sfy eF fs :: Row spy eP lpy :: Cl pcF (lpy.zip ps) :: Row s3 eB img :: Row s2 eB img :: Vr b1 [sf.val, .int .i64 ((m : Nat) : Int), sp.val] :: H) (fun y => img.length + 80 - y.2) ((img ++ mkB 80, 0)) ?_ ?_ ?_ ?_
                              · (try dsimp only)
                                exact ⟨Nat.zero_le _, hrl, hrb, fun _ => hr0, fun h => absurd h (Nat.lt_irrefl _)⟩
                              · rw [hrl]; repeat (first | exact Sub.nil | refine Sub.cons rfl ?_)
                              · (try dsimp only)
                                (repeat (first | exact Ka | refine Kb ?_ | refine Kc ?_ | refine Kf ?_ | refine Kd ?_ | refine Ke ?_ | refine Kh ?_ | refine Kg rfl ?_ | refine Ki ?_ | refine Kj ?_ | refine Kk ?_ | refine Kl ?_ | refine Km ?_ | refine Kn ?_ | refine Ko ?_))
                              · rintro ⟨ws, j⟩ ⟨hj, hwl, hwb, hw0, hw1⟩
                                (try dsimp only at *)
                                refine w_seq (w_region (?_))
                                refine o_ev (ev_lss rfl rfl) rfl ?_
                                refine o_nil (sq_n (w_seq (?_)))
                                refine w_if rfl (fun h10 => ?_) (fun h10 => ?_)
                                · skip
                                  try simp only [Za, Zb, Zc, Zd, Ze, Zf, Zg, Zh] at h10
                                  obtain ⟨x, hx⟩ : ∃ x, ws[j]? = some x := ⟨_, List.getElem?_eq_getElem (by omega)⟩
                                  have hx2 := hwb x (List.mem_of_getElem? hx)
                                  refine w_skip (sq_n (w_seq (w_block (w_seq (w_region (?_))))))
                                  refine o_ev (ev_move rfl) rfl ?_
                                  refine o_ev (ev_assign rfl) rfl ?_
                                  refine o_nil (sq_n (w_region (?_)))
                                  refine o_ev (ev_move rfl) rfl ?_
                                  refine o_ev (ev_move rfl) rfl ?_
                                  refine o_ev (ev_indexAddr rfl rfl j rfl (by omega)) rfl ?_
                                  refine o_ev (ev_load_el rfl (by rfl) (by rfl) x hx) rfl ?_
                                  refine o_ev (ev_xorM 256 rfl rfl rfl rfl x 119 rfl rfl hx2 (by decide)) rfl ?_
                                  refine o_ev (ev_indexAddr rfl rfl j rfl (by omega)) rfl ?_
                                  refine o_st (st_store_el rfl rfl (by rfl) (by omega)) rfl ?_
                                  rintro _ _ ⟨rfl, rfl⟩
                                  refine o_nil (bk_n (sq_n (w_region (?_))))
                                  refine o_ev (ev_add rfl rfl (by omega)) rfl ?_
                                  refine o_ev (ev_move rfl) rfl ?_
                                  refine o_nil (?_)
                                  skip
                                  refine lq_n ((ws.set j (x ^^^ 119), j + 1)) ?_ ?_ ?_ ?_
                                  · (try dsimp only)
                                    refine ⟨by omega, by rw [List.length_set]; exact hwl, set_all hwb (Nat.xor_lt_two_pow (n := 8) hx2 (by decide)), fun h => absurd h (by omega), fun _ => ?_⟩
                                    by_cases hj0 : j = 0
                                    · subst hj0
                                      rw [hw0 rfl] at hx; cases hx
                                      rw [List.getElem?_set_self (by omega)]; rfl
                                    · rw [List.getElem?_set_ne (by omega)]; exact hw1 (by omega)
                                  · (try dsimp only)
                                    omega
                                  · repeat (first | exact Sub.nil | refine Sub.cons rfl ?_)
                                  · (try dsimp only)
                                    (repeat (first | exact Ka | refine Kb ?_ | refine Kc ?_ | refine Kf ?_ | refine Kd ?_ | refine Ke ?_ | refine Kh ?_ | refine Kg rfl ?_ | refine Ki ?_ | refine Kj ?_ | refine Kk ?_ | refine Kl ?_ | refine Km ?_ | refine Kn ?_ | refine Ko ?_))
                                · skip
                                  try simp only [Za, Zb, Zc, Zd, Ze, Zf, Zg, Zh] at h10
                                  obtain rfl : j = img.length + 80 := by omega
                                  have hw20 := hw1 (by omega)
                                  have hi10 := un_len hu
                                  haveI hsw : ∀ R : Heap, Sl (Row rm eB ws :: R) (rm.cut 1 0 img.length) eB (ws.take img.length) := fun R => by
                                    have := Sl.cut (e := eB) (inferInstance : Sl (Row rm eB ws :: R) rm eB ws) (lo := 0) (hi := img.length) (Nat.zero_le _) (by omega)
                                    rw [List.drop_zero] at this
                                    exact this
                                  have hPy : PsIn (Cl pcF (lpy.zip ps) :: Row s3 eB img :: Row s2 eB img :: Vr b1 [sf.val, .int .i64 ((m : Nat) : Int), sp.val] :: H) lpy ps := own_in hly
                                  have hPz : PsIn (Cl pcF (lpz.zip ps) :: Vr b21 [sfy.val, .int .i64 ((m : Nat) : Int), spy.val] :: Row sfy eF fs :: Row spy eP lpy :: Cl pcF (lpy.zip ps) :: Row s3 eB img :: Row s2 eB img :: Vr b1 [sf.val, .int .i64 ((m : Nat) : Int), sp.val] :: H) lpz ps := own_in hlz
                                  refine w_exit (sq_e (lq_e (bk_h (sq_n (w_seq (w_region (?_)))))))
                                  refine o_ev (ev_move rfl) rfl ?_
                                  refine o_st (st_call (vs := [_]) rfl (stUnpackN (s := rm.cut 1 0 img.length) (xs := ws.take img.length) (un_head (by rw [List.getElem?_take_of_lt (by omega), hw20]; decide)) (by rw [List.length_take]; omega) (fun y hy => hwb y (List.mem_of_mem_take hy)))) rfl ?_
                                  rintro _ _ ⟨rfl, rfl⟩
                                  · skip
                                    refine o_ev (ev_move rfl) rfl ?_
                                    refine o_ev (ev_extract1 rfl rfl) rfl ?_
                                    refine o_ev (ev_extract1 rfl rfl) rfl ?_
                                    refine o_ev (ev_assign rfl) rfl ?_
                                    refine o_nil (sq_n (w_seq (w_seq (w_region (?_)))))
                                    refine o_ev (ev_loadS rfl) rfl ?_
                                    refine o_ev (ev_loadS rfl) rfl ?_
                                    refine o_st (st_call (vs := [_, _]) rfl (sameIx (ps := ps) (ps2 := ps) (hPy.ext (fun _ _ h => inferInstance) (fun _ _ h => inferInstance)) (PsIn.ext ⟨hlen, hin⟩ (fun _ _ h => inferInstance) (fun _ _ h => inferInstance)) (fun p hp => (hk p hp).1) (fun p hp => (hk p hp).1) (fun p hp => by have := (hk p hp).2.2.2; omega) (by omega) (by omega))) rfl ?_
                                    rintro _ _ ⟨rfl, rfl⟩
                                    refine o_ev (ev_not rfl) rfl ?_
                                    refine o_split (ev_move rfl) rfl (fun h11 => ?_) (fun h11 => ?_)
                                    · skip
                                      skip
                                      exact absurd h11 (by simp) -- DONE
                                    · skip
                                      skip
                                      refine o_on_ev rfl rfl rfl (ev_loadS rfl) ?_
                                      refine o_on_ev rfl rfl rfl (ev_loadS rfl) ?_
                                      refine o_on rfl rfl rfl (st_call (vs := [_, _]) rfl (sameIx (ps := ps) (ps2 := ps) (hPz.ext (fun _ _ h => inferInstance) (fun _ _ h => inferInstance)) (PsIn.ext ⟨hlen, hin⟩ (fun _ _ h => inferInstance) (fun _ _ h => inferInstance)) (fun p hp => (hk p hp).1) (fun p hp => (hk p hp).1) (fun p hp => by have := (hk p hp).2.2.2; omega) (by omega) (by omega))) ?_
                                      rintro _ _ ⟨rfl, rfl⟩
                                      refine o_on_ev rfl rfl rfl (ev_not rfl) ?_
                                      refine o_ev (ev_pick_f rfl rfl) rfl ?_
                                      refine o_split (ev_move rfl) rfl (fun h12 => ?_) (fun h12 => ?_)
                                      · skip
                                        skip
                                        exact absurd h12 (by simp) -- DONE
                                      · skip
                                        skip
                                        refine o_on_ev rfl rfl rfl (ev_move rfl) ?_
                                        refine o_on rfl rfl rfl (st_call (vs := [_]) rfl (numErr 10)) ?_
                                        rintro _ _ ⟨rfl, rfl⟩
                                        refine o_on_ev rfl rfl rfl (ev_neq rfl rfl) ?_
                                        refine o_ev (ev_pick_f rfl rfl) rfl ?_
                                        refine o_nil (sq_n (?_))
                                        refine w_if rfl (fun h13 => ?_) (fun h13 => ?_)
                                        · skip
                                          skip
                                          exact absurd h13 (by decide) -- DONE
                                        · skip
                                          skip
                                          refine w_skip (sq_n (w_seq (w_region (?_))))
                                          refine o_ev (ev_move rfl) rfl ?_
                                          refine o_ev (ev_move rfl) rfl ?_
                                          refine o_st (st_build2 eSV rfl rfl rfl) rfl ?_
                                          rintro _ _ ⟨sL0, rfl, rfl⟩
                                          refine o_ev (ev_assign rfl) rfl ?_
                                          refine o_nil (sq_n (w_seq (w_region (?_))))
                                          refine o_ev (ev_assign rfl) rfl ?_
                                          refine o_nil (sq_n (w_seq (w_seq (w_region (?_)))))
                                          refine o_ev (ev_loadS rfl) rfl ?_
                                          refine o_ev (ev_loadS rfl) rfl ?_
                                          refine o_st (st_build2 eX rfl rfl rfl) rfl ?_
                                          rintro _ _ ⟨sX, rfl, rfl⟩
                                          obtain ⟨us, hus⟩ : ∃ us, us = [(sfy, ((m : Nat) : Int), spy), (sfz, ((m : Nat) : Int), spz)] := ⟨_, rfl⟩
                                          rw [← hus]
                                          obtain ⟨ls, hls⟩ : ∃ ls, ls = [lpy, lpz] := ⟨_, rfl⟩
                                          have hul : us.length = 2 := by rw [hus]; rfl
                                          have hdl : ∀ i, ((ls.take i).flatten).length ≤ 2 * ps.length := by
                                            intro i
                                            rw [hls]
                                            match i with
                                            | 0 => simp
                                            | 1 => simp; omega
                                            | i + 2 => simp; omega
                                          refine o_ev (ev_len1 rfl) rfl ?_
                                          refine o_ev (ev_move rfl) rfl ?_
                                          refine o_nil (sq_n (w_block (?_)))
                                          refine w_loop (SV × SV × Nat) (fun y => y.2.2 ≤ 2) (fun y => [(1, .pointer (some ⟨b1, 0, none⟩)), (21, .pointer (some ⟨b21, 0, none⟩)), (22, .pointer (some ⟨b22, 0, none⟩)), (24, y.1.val), (25, y.2.1.val), (217, sX.val), (218, .int .i64 ((us.length : Nat) : Int)), (219, .int .i64 ((y.2.2 : Nat) : Int))]) (fun y => Row sX eX us :: Row y.1 eSV ([s2, s3] ++ ((ls.take y.2.2).flatten).map (·.1)) :: Row y.2.1 eSV (((ls.take y.2.2).flatten).map (·.2)) :: Vr b22 [sfz.val, .int .i64 ((m : Nat) : Int), spz.val] :: Row sfz eF fs :: Row spz eP lpz :: Cl pcF (lpz.zip ps) :: Vr b21 [sfy.val, .int .i64 ((m : Nat) : Int), spy.val] :: Row sfy eF fs :: Row spy eP lpy :: Cl pcF (lpy.zip ps) :: Row s3 eB img :: Row s2 eB img :: Vr b1 [sf.val, .int .i64 ((m : Nat) : Int), sp.val] :: H) (fun y => 2 - y.2.2) ((sL0, SV.nil, 0)) ?_ ?_ ?_ ?_
                                          · (try dsimp only)
                                            exact Nat.zero_le _
                                          · repeat (first | exact Sub.nil | refine Sub.cons rfl ?_)
                                          · (try dsimp only)
                                            (repeat (first | exact Ka | refine Kb ?_ | refine Kc ?_ | refine Kf ?_ | refine Kd ?_ | refine Ke ?_ | refine Kh ?_ | refine Kg rfl ?_ | refine Ki ?_ | refine Kj ?_ | refine Kk ?_ | refine Kl ?_ | refine Km ?_ | refine Kn ?_ | refine Ko ?_))
                                          · rintro ⟨sL, sI, i⟩ hi2
                                            (try dsimp only at *)
                                            refine w_seq (w_region (?_))
                                            refine o_ev (ev_lss rfl rfl) rfl ?_
                                            refine o_nil (sq_n (w_seq (?_)))
                                            refine w_if rfl (fun h14 => ?_) (fun h14 => ?_)
                                            · skip
                                              try simp only [Za, Zb, Zc, Zd, Ze, Zf, Zg, Zh] at h14
                                              obtain ⟨u, hu1⟩ : ∃ u, us[i]? = some u := ⟨_, List.getElem?_eq_getElem (by omega)⟩
                                              obtain ⟨lu, hlu, hll, hSu⟩ : ∃ lu, ls[i]? = some lu ∧ lu.length = ps.length ∧ Sl (Row spz eP lpz :: Cl pcF (lpz.zip ps) :: Vr b21 [sfy.val, .int .i64 ((m : Nat) : Int), spy.val] :: Row sfy eF fs :: Row spy eP lpy :: Cl pcF (lpy.zip ps) :: Row s3 eB img :: Row s2 eB img :: Vr b1 [sf.val, .int .i64 ((m : Nat) : Int), sp.val] :: H) u.2.2 eP lu := by
                                                rw [hus] at hu1
                                                rw [hls]
                                                match i, hu1 with
                                                | 0, hu1 => simp at hu1; subst hu1; exact ⟨lpy, rfl, hly, inferInstance⟩
                                                | 1, hu1 => simp at hu1; subst hu1; exact ⟨lpz, rfl, hlz, inferInstance⟩
                                                | i + 2, hu1 => simp at hu1
                                              have hd := hdl i
                                              refine w_skip (sq_n (w_seq (w_block (w_seq (w_region (?_))))))
                                              refine o_ev (ev_indexAddr rfl rfl i rfl (by omega)) rfl ?_
                                              refine o_ev (ev_loadS_el rfl (by rfl) (by rfl) u hu1) rfl ?_
                                              refine o_st (st_alloc) rfl ?_
                                              rintro _ _ ⟨b27, rfl, rfl⟩
                                              refine o_st (st_store rfl rfl rfl) rfl ?_
                                              rintro _ _ ⟨rfl, rfl⟩
                                              refine o_nil (sq_n (w_seq (w_region (?_))))
                                              refine o_ev (ev_fieldAddr rfl) rfl ?_
                                              refine o_ev (ev_load rfl) rfl ?_
                                              refine o_ev (ev_len1 rfl) rfl ?_
                                              refine o_ev (ev_move rfl) rfl ?_
                                              refine o_nil (sq_n (w_block (?_)))
                                              refine w_loop (SV × SV × Nat) (fun y => y.2.2 ≤ lu.length) (fun y => [(1, .pointer (some ⟨b1, 0, none⟩)), (21, .pointer (some ⟨b21, 0, none⟩)), (22, .pointer (some ⟨b22, 0, none⟩)), (24, y.1.val), (25, y.2.1.val), (27, .pointer (some ⟨b27, 0, none⟩)), (217, sX.val), (218, .int .i64 ((us.length : Nat) : Int)), (219, .int .i64 ((i : Nat) : Int)), (224, u.2.2.val), (225, .int .i64 ((lu.length : Nat) : Int)), (226, .int .i64 ((y.2.2 : Nat) : Int))]) (fun y => Row sX eX us :: Row y.1 eSV ([s2, s3] ++ ((ls.take i).flatten ++ lu.take y.2.2).map (·.1)) :: Row y.2.1 eSV (((ls.take i).flatten ++ lu.take y.2.2).map (·.2)) :: Vr b22 [sfz.val, .int .i64 ((m : Nat) : Int), spz.val] :: Row sfz eF fs :: Row spz eP lpz :: Cl pcF (lpz.zip ps) :: Vr b21 [sfy.val, .int .i64 ((m : Nat) : Int), spy.val] :: Row sfy eF fs :: Row spy eP lpy :: Cl pcF (lpy.zip ps) :: Row s3 eB img :: Row s2 eB img :: Vr b1 [sf.val, .int .i64 ((m : Nat) : Int), sp.val] :: H) (fun y => lu.length - y.2.2) ((sL, sI, 0)) ?_ ?_ ?_ ?_
                                              · (try dsimp only)
                                                exact Nat.zero_le _
                                              · repeat (first | exact Sub.nil | refine Sub.cons rfl ?_)
                                              · (try dsimp only)
                                                rw [List.take_zero, List.append_nil]; (repeat (first | exact Ka | refine Kb ?_ | refine Kc ?_ | refine Kf ?_ | refine Kd ?_ | refine Ke ?_ | refine Kh ?_ | refine Kg rfl ?_ | refine Ki ?_ | refine Kj ?_ | refine Kk ?_ | refine Kl ?_ | refine Km ?_ | refine Kn ?_ | refine Ko ?_))
                                              · rintro ⟨sA, sB, j⟩ hj3
                                                (try dsimp only at *)
                                                refine w_seq (w_region (?_))
                                                refine o_ev (ev_lss rfl rfl) rfl ?_
                                                refine o_nil (sq_n (w_seq (?_)))
                                                refine w_if rfl (fun h15 => ?_) (fun h15 => ?_)
                                                · skip
                                                  try simp only [Za, Zb, Zc, Zd, Ze, Zf, Zg, Zh] at h15
                                                  obtain ⟨p, hp⟩ : ∃ p, lu[j]? = some p := ⟨_, List.getElem?_eq_getElem (by omega)⟩
                                                  have hdj : ((ls.take i).flatten ++ lu.take j).length ≤ 3 * ps.length := by rw [List.length_append, List.length_take]; omega
                                                  refine w_skip (sq_n (w_seq (w_block (w_seq (w_region (?_))))))
                                                  refine o_ev (ev_indexAddr rfl rfl j rfl (by omega)) rfl ?_
                                                  refine o_ev (ev_loadS_el rfl (by rfl) (by rfl) p hp) rfl ?_
                                                  refine o_st (st_alloc) rfl ?_
                                                  rintro _ _ ⟨b29, rfl, rfl⟩
                                                  refine o_st (st_store rfl rfl rfl) rfl ?_
                                                  rintro _ _ ⟨rfl, rfl⟩
                                                  refine o_nil (sq_n (w_seq (w_region (?_))))
                                                  refine o_ev (ev_move rfl) rfl ?_
                                                  refine o_ev (ev_fieldAddr rfl) rfl ?_
                                                  refine o_ev (ev_load rfl) rfl ?_
                                                  refine o_st (st_build1 eSV rfl rfl) rfl ?_
                                                  rintro _ _ ⟨sC, rfl, rfl⟩
                                                  refine o_st (st_append rfl rfl rfl rfl (by simp only [List.length_append, List.length_map, List.length_cons, List.length_nil] at hdj ⊢; omega) (by simp only [List.length_append, List.length_map, List.length_cons, List.length_nil] at hdj ⊢; omega)) rfl ?_
                                                  rintro _ _ ⟨sD, rfl, rfl⟩
                                                  refine o_ev (ev_assign rfl) rfl ?_
                                                  refine o_nil (sq_n (w_region (?_)))
                                                  refine o_ev (ev_move rfl) rfl ?_
                                                  refine o_ev (ev_fieldAddr rfl) rfl ?_
                                                  refine o_ev (ev_load rfl) rfl ?_
                                                  refine o_st (st_build1 eSV rfl rfl) rfl ?_
                                                  rintro _ _ ⟨sE, rfl, rfl⟩
                                                  refine o_st (st_append rfl rfl rfl rfl (by simp only [List.length_append, List.length_map, List.length_cons, List.length_nil] at hdj ⊢; omega) (by simp only [List.length_append, List.length_map, List.length_cons, List.length_nil] at hdj ⊢; omega)) rfl ?_
                                                  rintro _ _ ⟨sG, rfl, rfl⟩
                                                  refine o_ev (ev_assign rfl) rfl ?_
                                                  refine o_nil (bk_n (sq_n (w_region (?_))))
                                                  refine o_ev (ev_add rfl rfl (by omega)) rfl ?_
                                                  refine o_ev (ev_move rfl) rfl ?_
                                                  refine o_nil (?_)
                                                  skip
                                                  refine lq_n ((sD, sG, j + 1)) ?_ ?_ ?_ ?_
                                                  · (try dsimp only)
                                                    omega
                                                  · (try dsimp only)
                                                    omega
                                                  · repeat (first | exact Sub.nil | refine Sub.cons rfl ?_)
                                                  · (try dsimp only)
                                                    rw [show [s2, s3] ++ ((ls.take i).flatten ++ lu.take (j + 1)).map (·.1) = [s2, s3] ++ ((ls.take i).flatten ++ lu.take j).map (·.1) ++ [p.1] by rw [List.take_add_one, hp]; simp, show ((ls.take i).flatten ++ lu.take (j + 1)).map (·.2) = ((ls.take i).flatten ++ lu.take j).map (·.2) ++ [p.2] by rw [List.take_add_one, hp]; simp]; (repeat (first | exact Ka | refine Kb ?_ | refine Kc ?_ | refine Kf ?_ | refine Kd ?_ | refine Ke ?_ | refine Kh ?_ | refine Kg rfl ?_ | refine Ki ?_ | refine Kj ?_ | refine Kk ?_ | refine Kl ?_ | refine Km ?_ | refine Kn ?_ | refine Ko ?_))
                                                · skip
                                                  try simp only [Za, Zb, Zc, Zd, Ze, Zf, Zg, Zh] at h15
                                                  obtain rfl : j = lu.length := by omega
                                                  rw [List.take_length, show (ls.take i).flatten ++ lu = (ls.take (i + 1)).flatten by rw [List.take_add_one, hlu]; simp]
                                                  refine w_exit (sq_e (lq_e (bk_h (bk_n (sq_n (w_region (?_)))))))
                                                  refine o_ev (ev_add rfl rfl (by omega)) rfl ?_
                                                  refine o_ev (ev_move rfl) rfl ?_
                                                  refine o_nil (?_)
                                                  skip
                                                  refine lq_n ((sA, sB, i + 1)) ?_ ?_ ?_ ?_
                                                  · (try dsimp only)
                                                    omega
                                                  · (try dsimp only)
                                                    omega
                                                  · repeat (first | exact Sub.nil | refine Sub.cons rfl ?_)
                                                  · (try dsimp only)
                                                    (repeat (first | exact Ka | refine Kb ?_ | refine Kc ?_ | refine Kf ?_ | refine Kd ?_ | refine Ke ?_ | refine Kh ?_ | refine Kg rfl ?_ | refine Ki ?_ | refine Kj ?_ | refine Kk ?_ | refine Kl ?_ | refine Km ?_ | refine Kn ?_ | refine Ko ?_))
                                            · skip
                                              try simp only [Za, Zb, Zc, Zd, Ze, Zf, Zg, Zh] at h14
                                              obtain rfl : i = 2 := by omega
                                              have hfl2 : (ls.take 2).flatten = lpy ++ lpz := by rw [hls]; simp
                                              rw [hfl2]
                                              obtain ⟨al, hal⟩ : ∃ al, al = lpy.zip ps ++ lpz.zip ps := ⟨_, rfl⟩
                                              have hal1 : al.map (fun x => x.1.1) = (lpy ++ lpz).map (·.1) := by rw [hal, List.map_append, zip_map1 hly (·.1), zip_map1 hlz (·.1), List.map_append]
                                              have hal2 : al.map (fun x => x.1.2) = (lpy ++ lpz).map (·.2) := by rw [hal, List.map_append, zip_map1 hly (·.2), zip_map1 hlz (·.2), List.map_append]
                                              have hall : al.length = 2 * ps.length := by rw [hal, List.length_append, List.length_zip, List.length_zip]; omega
                                              have halk : ∀ x ∈ al, x.2 ∈ ps := by
                                                intro x hx
                                                rw [hal] at hx
                                                rcases List.mem_append.1 hx with h | h
                                                · exact (List.of_mem_zip (a := x.1) (b := x.2) h).2
                                                · exact (List.of_mem_zip (a := x.1) (b := x.2) h).2
                                              obtain ⟨zs, hzs⟩ : ∃ zs, zs = (s2, img) :: (s3, img) :: al.map (fun x => (x.1.1, x.2.1)) := ⟨_, rfl⟩
                                              obtain ⟨ds, hds⟩ : ∃ ds, ds = al.map (fun x => (x.1.2, x.2.2)) := ⟨_, rfl⟩
                                              have hz1 : zs.map (·.1) = [s2, s3] ++ (lpy ++ lpz).map (·.1) := by rw [hzs, ← hal1]; simp
                                              have hd1 : ds.map (·.1) = (lpy ++ lpz).map (·.2) := by rw [hds, ← hal2]; simp
                                              have hzl : zs.length = 2 * ps.length + 2 := by rw [hzs]; simp [hall]
                                              have hdsl : ds.length = 2 * ps.length := by rw [hds]; simp [hall]
                                              have hzo : ∀ x ∈ zs, x.2.length ≤ 1000000000 := by
                                                intro x hx
                                                rw [hzs] at hx
                                                rcases List.mem_cons.1 hx with rfl | hx
                                                · show img.length ≤ _; omega
                                                · rcases List.mem_cons.1 hx with rfl | hx
                                                  · show img.length ≤ _; omega
                                                  · obtain ⟨y, hy, rfl⟩ := List.mem_map.1 hx
                                                    exact (hk _ (halk y hy)).2.1
                                              have hdo : ∀ x ∈ ds, x.2.length ≤ 1000000000 := by
                                                intro x hx
                                                rw [hds] at hx
                                                obtain ⟨y, hy, rfl⟩ := List.mem_map.1 hx
                                                exact (hk _ (halk y hy)).2.2.2
                                              refine w_hsub (H' := Cl rwB zs :: Row sL eSV (zs.map (·.1)) :: Cl rwI ds :: Row sI eSV (ds.map (·.1)) :: Vr b22 [sfz.val, .int .i64 ((m : Nat) : Int), spz.val] :: Row sfz eF fs :: Row spz eP lpz :: Vr b21 [sfy.val, .int .i64 ((m : Nat) : Int), spy.val] :: Row sfy eF fs :: Row spy eP lpy :: Vr b1 [sf.val, .int .i64 ((m : Nat) : Int), sp.val] :: H) ?_ ?_
                                              · rw [hz1, hd1, hzs, hds]
                                                refine HSub.trans (H' := Cl pcF (lpy.zip ps) :: Cl pcF (lpz.zip ps) :: Row s3 eB img :: Row s2 eB img :: Row sL eSV ([s2, s3] ++ (lpy ++ lpz).map (·.1)) :: Row sI eSV ((lpy ++ lpz).map (·.2)) :: Vr b22 [sfz.val, .int .i64 ((m : Nat) : Int), spz.val] :: Row sfz eF fs :: Row spz eP lpz :: Vr b21 [sfy.val, .int .i64 ((m : Nat) : Int), spy.val] :: Row sfy eF fs :: Row spy eP lpy :: Vr b1 [sf.val, .int .i64 ((m : Nat) : Int), sp.val] :: H) (by (repeat (first | exact Ka | refine Kb ?_ | refine Kc ?_ | refine Kf ?_ | refine Kd ?_ | refine Ke ?_ | refine Kh ?_ | refine Kg rfl ?_ | refine Ki ?_ | refine Kj ?_ | refine Kk ?_ | refine Kl ?_ | refine Km ?_ | refine Kn ?_ | refine Ko ?_))) ?_
                                                refine HSub.trans (cl_app (f := pcF)) ?_
                                                rw [← hal]
                                                refine HSub.trans pc_split ?_
                                                refine HSub.trans (H' := Row s3 eB img :: Cl rwB (al.map (fun x => (x.1.1, x.2.1))) :: Row s2 eB img :: Cl rwI (al.map (fun x => (x.1.2, x.2.2))) :: Row sL eSV ([s2, s3] ++ (lpy ++ lpz).map (·.1)) :: Row sI eSV ((lpy ++ lpz).map (·.2)) :: Vr b22 [sfz.val, .int .i64 ((m : Nat) : Int), spz.val] :: Row sfz eF fs :: Row spz eP lpz :: Vr b21 [sfy.val, .int .i64 ((m : Nat) : Int), spy.val] :: Row sfy eF fs :: Row spy eP lpy :: Vr b1 [sf.val, .int .i64 ((m : Nat) : Int), sp.val] :: H) (by (repeat (first | exact Ka | refine Kb ?_ | refine Kc ?_ | refine Kf ?_ | refine Kd ?_ | refine Ke ?_ | refine Kh ?_ | refine Kg rfl ?_ | refine Ki ?_ | refine Kj ?_ | refine Kk ?_ | refine Kl ?_ | refine Km ?_ | refine Kn ?_ | refine Ko ?_))) ?_
                                                refine HSub.trans (cl_cons (f := rwB) (s3, img)) ?_
                                                refine HSub.trans (H' := Row s2 eB img :: Cl rwB ((s3, img) :: al.map (fun x => (x.1.1, x.2.1))) :: Cl rwI (al.map (fun x => (x.1.2, x.2.2))) :: Row sL eSV ([s2, s3] ++ (lpy ++ lpz).map (·.1)) :: Row sI eSV ((lpy ++ lpz).map (·.2)) :: Vr b22 [sfz.val, .int .i64 ((m : Nat) : Int), spz.val] :: Row sfz eF fs :: Row spz eP lpz :: Vr b21 [sfy.val, .int .i64 ((m : Nat) : Int), spy.val] :: Row sfy eF fs :: Row spy eP lpy :: Vr b1 [sf.val, .int .i64 ((m : Nat) : Int), sp.val] :: H) (by (repeat (first | exact Ka | refine Kb ?_ | refine Kc ?_ | refine Kf ?_ | refine Kd ?_ | refine Ke ?_ | refine Kh ?_ | refine Kg rfl ?_ | refine Ki ?_ | refine Kj ?_ | refine Kk ?_ | refine Kl ?_ | refine Km ?_ | refine Kn ?_ | refine Ko ?_))) ?_
                                                refine HSub.trans (cl_cons (f := rwB) (s2, img)) ?_
                                                (repeat (first | exact Ka | refine Kb ?_ | refine Kc ?_ | refine Kf ?_ | refine Kd ?_ | refine Ke ?_ | refine Kh ?_ | refine Kg rfl ?_ | refine Ki ?_ | refine Kj ?_ | refine Kk ?_ | refine Kl ?_ | refine Km ?_ | refine Kn ?_ | refine Ko ?_))
                                              refine w_exit (sq_e (lq_e (bk_h (sq_n (w_seq (w_seq (w_region (?_))))))))
                                              refine o_ev (ev_move rfl) rfl ?_
                                              refine o_st (st_call (vs := [_]) rfl (ownB (zs := zs) (by omega) (fun x hx => by have := hzo x hx; omega))) rfl ?_
                                              rintro _ _ ⟨rfl, zs', hzl', hzs', rfl⟩
                                              refine o_ev (ev_not rfl) rfl ?_
                                              refine o_split (ev_move rfl) rfl (fun h16 => ?_) (fun h16 => ?_)
                                              · skip
                                                skip
                                                exact absurd h16 (by simp) -- DONE
                                              · skip
                                                skip
                                                refine o_on_ev rfl rfl rfl (ev_move rfl) ?_
                                                refine o_hsub (H' := Cl rwI ds :: Row sI eSV (ds.map (·.1)) :: Cl rwB zs' :: Row sL eSV (zs.map (·.1)) :: Vr b22 [sfz.val, .int .i64 ((m : Nat) : Int), spz.val] :: Row sfz eF fs :: Row spz eP lpz :: Vr b21 [sfy.val, .int .i64 ((m : Nat) : Int), spy.val] :: Row sfy eF fs :: Row spy eP lpy :: Vr b1 [sf.val, .int .i64 ((m : Nat) : Int), sp.val] :: H) (by (repeat (first | exact Ka | refine Kb ?_ | refine Kc ?_ | refine Kf ?_ | refine Kd ?_ | refine Ke ?_ | refine Kh ?_ | refine Kg rfl ?_ | refine Ki ?_ | refine Kj ?_ | refine Kk ?_ | refine Kl ?_ | refine Km ?_ | refine Kn ?_ | refine Ko ?_))) ?_
                                                refine o_on rfl rfl rfl (st_call (vs := [_]) rfl (ownI (zs := ds) (by omega) (fun x hx => by have := hdo x hx; omega))) ?_
                                                rintro _ _ ⟨rfl, ds', hdl', hds', rfl⟩
                                                refine o_on_ev rfl rfl rfl (ev_not rfl) ?_
                                                refine o_ev (ev_pick_f rfl rfl) rfl ?_
                                                refine o_nil (sq_n (?_))
                                                refine w_if rfl (fun h17 => ?_) (fun h17 => ?_)
                                                · skip
                                                  skip
                                                  exact absurd h17 (by simp) -- DONE
                                                · skip
                                                  skip
                                                  refine w_skip (sq_n (w_seq (w_region (?_))))
                                                  refine o_ev (ev_loadS rfl) rfl ?_
                                                  have q1 := (own_fst (fun j x => mB j x.2.length) hzl' hzs').trans hz1
                                                  have q2 := (own_fst (fun j x => mI j x.2.length) hdl' hds').trans hd1
                                                  obtain ⟨psy, r1, r2, r3⟩ := ready (lp := lpy) (zb := zs') (zi := ds') (R := Row sfy eF fs :: Row spy eP lpy :: Vr b22 [sfz.val, .int .i64 ((m : Nat) : Int), spz.val] :: Row sfz eF fs :: Row spz eP lpz :: Vr b21 [sfy.val, .int .i64 ((m : Nat) : Int), spy.val] :: Vr b1 [sf.val, .int .i64 ((m : Nat) : Int), sp.val] :: H) (b := 2) (d := 0) (by
                                                      rw [List.map_take, List.map_drop, q1, List.map_append]
                                                      show (lpy.map (·.1) ++ lpz.map (·.1)).take lpy.length = _
                                                      exact List.take_left' (List.length_map ..)) (by
                                                      rw [List.map_take, List.map_drop, q2, List.map_append, List.drop_zero]
                                                      exact List.take_left' (List.length_map ..)) (by
                                                      intro x hx
                                                      obtain ⟨j, y, hy, rfl⟩ := own_mem (fun j x => mB j x.2.length) hzl' hzs' x hx
                                                      exact ⟨mB_lt _ _, by show (mB j y.2.length).length ≤ _; rw [mB_len]; exact hzo y hy⟩) (by
                                                      intro x hx
                                                      obtain ⟨j, y, hy, rfl⟩ := own_mem (fun j x => mI j x.2.length) hdl' hds' x hx
                                                      exact ⟨mI_le _ _, by show (mI j y.2.length).length ≤ _; rw [mI_len]; exact hdo y hy⟩)
                                                  refine o_hsub (H' := Row sfy eF fs :: Row spy eP lpy :: Cl pcF (lpy.zip psy) :: Vr b22 [sfz.val, .int .i64 ((m : Nat) : Int), spz.val] :: Row sfz eF fs :: Row spz eP lpz :: Vr b21 [sfy.val, .int .i64 ((m : Nat) : Int), spy.val] :: Vr b1 [sf.val, .int .i64 ((m : Nat) : Int), sp.val] :: H) (HSub.trans (H' := Cl rwB zs' :: Cl rwI ds' :: Row sfy eF fs :: Row spy eP lpy :: Vr b22 [sfz.val, .int .i64 ((m : Nat) : Int), spz.val] :: Row sfz eF fs :: Row spz eP lpz :: Vr b21 [sfy.val, .int .i64 ((m : Nat) : Int), spy.val] :: Vr b1 [sf.val, .int .i64 ((m : Nat) : Int), sp.val] :: H) (by (repeat (first | exact Ka | refine Kb ?_ | refine Kc ?_ | refine Kf ?_ | refine Kd ?_ | refine Ke ?_ | refine Kh ?_ | refine Kg rfl ?_ | refine Ki ?_ | refine Kj ?_ | refine Kk ?_ | refine Kl ?_ | refine Km ?_ | refine Kn ?_ | refine Ko ?_))) (HSub.trans r3 (by (repeat (first | exact Ka | refine Kb ?_ | refine Kc ?_ | refine Kf ?_ | refine Kd ?_ | refine Ke ?_ | refine Kh ?_ | refine Kg rfl ?_ | refine Ki ?_ | refine Kj ?_ | refine Kk ?_ | refine Kl ?_ | refine Km ?_ | refine Kn ?_ | refine Ko ?_))))) ?_
                                                  refine o_st (st_call (vs := [_]) rfl (spoilOk r1 hf hn (by omega) r2)) rfl ?_
                                                  rintro _ _ ⟨_, _, _, rfl⟩
                                                  refine o_nil (sq_n (w_seq (w_region (?_))))
                                                  refine o_ev (ev_fieldAddr rfl) rfl ?_
                                                  refine o_ev (ev_fieldAddr rfl) rfl ?_
                                                  refine o_ev (ev_load rfl) rfl ?_
                                                  refine o_ev (ev_fieldAddr rfl) rfl ?_
                                                  refine o_ev (ev_fieldAddr rfl) rfl ?_
                                                  refine o_ev (ev_load rfl) rfl ?_
                                                  refine o_st (st_call (vs := [_, _]) rfl (fieldsEq (xs := fs) (ys := fs) (by omega))) rfl ?_
                                                  rintro _ _ ⟨rfl, rfl⟩
                                                  refine o_split (ev_move rfl) rfl (fun h18 => ?_) (fun h18 => ?_)
                                                  · skip
                                                    skip
                                                    refine o_on_ev rfl rfl rfl (ev_fieldAddr rfl) ?_
                                                    refine o_on_ev rfl rfl rfl (ev_load rfl) ?_
                                                    refine o_on_ev rfl rfl rfl (ev_len1 rfl) ?_
                                                    refine o_on_ev rfl rfl rfl (ev_fieldAddr rfl) ?_
                                                    refine o_on_ev rfl rfl rfl (ev_load rfl) ?_
                                                    refine o_on_ev rfl rfl rfl (ev_len1 rfl) ?_
                                                    refine o_on_ev rfl rfl rfl (ev_eql rfl rfl) ?_
                                                    refine o_ev (ev_pick_t rfl rfl) rfl ?_
                                                    refine o_ev (ev_assign rfl) rfl ?_
                                                    refine o_nil (sq_n (w_ret (?_)))
                                                    refine res_intro (vs := [_]) Tryz.results4 (.inr rfl) (.cons (.tmp rfl) (.nil)) ?_
                                                    exact ⟨_, by (repeat (first | exact Ka | refine Kb ?_ | refine Kc ?_ | refine Kf ?_ | refine Kd ?_ | refine Ke ?_ | refine Kh ?_ | refine Kg rfl ?_ | refine Ki ?_ | refine Kj ?_ | refine Kk ?_ | refine Kl ?_ | refine Km ?_ | refine Kn ?_ | refine Ko ?_)), by rw [show lpz.length = lp.length by omega]; simp [resOf], rfl⟩
                                                  · skip
                                                    skip
                                                    exact absurd h18 (by simp) -- DONE
theorem lawMem {G : Base} {H : Heap} {sf sp : SV} {fs : List FV} {lp : List (SV × SV)} {ps : Pcs} {n : Int} [hg : Glb G H] [ErrT G] [Tab H 26 zipT] [Tab H 24 sealT] [Sl H sf eF fs] [hsp : Sl H sp eP lp] (hP : PsIn H lp ps) (hk : OkPs ps) (hn : fs.length ≤ 1000000000) (hf : ∀ f ∈ fs, f.name.size ≤ 1000000000000) (hpl : ps.length ≤ 9000000) (hsum : psLen ps ≤ 900000000) :
    SC G Tryz.prog 4 [.agg [sf.val, .int .i64 n, sp.val].toArray] H (fun v H' => v = .bool true ∧ H' = H) := by
  cases he : packE fs n ps with
  | error e => exact lawMemE he hP hk hn hf (by omega) hsum
  | ok img => exact lawMemO he hP hk hn hf hpl hsum
end Go.Sx
