import Derived.Test.YtcbidldebfibkaaGreatDoorW21
import Derived.Test.YtcbidldebfibkaaGreatDoorSxT
set_option linter.unusedVariables false
set_option linter.unusedSimpArgs false
set_option linter.unusedSectionVars false
set_option linter.unnecessarySimpa false
namespace Go.Sx
open Go Go.Proofs
set_option maxRecDepth 100000
set_option linter.unusedSimpArgs false
set_option linter.unusedVariables false

theorem unBl_short {bl : List (Nat × List Nat)} (h : bl.length < 2) : unBl bl = none := by
  match bl, h with
  | [], _ => rfl
  | [_], _ => rfl
theorem unBl_odd {bl : List (Nat × List Nat)} (h : bl.length % 2 ≠ 0) : unBl bl = none := by
  match bl, h with
  | [], _ => rfl
  | [_], _ => rfl
  | a :: b :: r, h =>
    simp only [List.length_cons] at h
    rw [unBl, if_pos (by omega)]
theorem unBl_two {bl : List (Nat × List Nat)} {a b : Nat × List Nat} (h0 : bl[0]? = some a) (h1 : bl[1]? = some b) (h : bl.length % 2 = 0) : unBl bl = match rdHd a b with
    | none => none
    | some (fs, n) =>
      match rdPs (bl.drop 2) with
      | none => none
      | some ps => some (fs, n, ps) := by
  match bl, h0, h1, h with
  | x :: y :: r, h0, h1, h =>
    simp at h0 h1
    subst h0; subst h1
    simp only [List.length_cons] at h
    rw [unBl, if_neg (by omega)]
    rfl
def glueQ (ps : Pcs) : Option Pcs → Option Pcs
  | none => none
  | some r => some (ps ++ r)
theorem PsIn.snoc {F F' : Heap} {l : List (SV × SV)} {ps : Pcs} (h : PsIn F l ps) (a b : SV) (x : List Nat) (y : List Int) (hF : ∀ (s : SV) (b : List Nat), Sl F s eB b → Sl F' s eB b) (hF2 : ∀ (s : SV) (b : List Int), Sl F s eI b → Sl F' s eI b) (ha : Sl F' a eB x) (hb : Sl F' b eI y) : PsIn F' (l ++ [(a, b)]) (ps ++ [(x, y)]) := by
  obtain ⟨h1, h2⟩ := h
  refine ⟨by simp [h1], fun i p q hp hq => ?_⟩
  by_cases hi : i < l.length
  · rw [List.getElem?_append_left hi] at hp
    rw [List.getElem?_append_left (by omega)] at hq
    obtain ⟨h3, h4⟩ := h2 i p q hp hq
    exact ⟨hF _ _ h3, hF2 _ _ h4⟩
  · rw [List.getElem?_append_right (by omega)] at hp hq
    have hz : i - l.length = 0 := by
      have := (List.getElem?_eq_some_iff.1 hp).1
      simp at this; omega
    rw [hz] at hp
    rw [← h1, hz] at hq
    simp at hp hq
    subst hp; subst hq
    exact ⟨ha, hb⟩
theorem PsIn.nil {F : Heap} : PsIn F [] [] := ⟨rfl, fun i p q h => by simp at h⟩
theorem Bods.ext {F F' : Heap} {l : List (Nat × SV)} {bl : List (Nat × List Nat)} (h : Bods F l bl) (hF : ∀ (s : SV) (b : List Nat), Sl F s eB b → Sl F' s eB b) : Bods F' l bl := ⟨h.1, fun i p q hp hq => ⟨(h.2 i p q hp hq).1, hF _ _ (h.2 i p q hp hq).2⟩⟩

theorem encB_mem_len {bl : List (Nat × List Nat)} {q : Nat × List Nat} (h : q ∈ bl) : q.2.length ≤ (encAll bl).length := body_le h

theorem encAll_ge : ∀ bl : List (Nat × List Nat), bl.length ≤ (encAll bl).length
  | [] => by simp
  | q :: bl => by
    have ih := encAll_ge bl
    rw [show encAll (q :: bl) = encB q.1 q.2 ++ encAll bl by simp [encAll], List.length_append, encB_len, List.length_cons]; omega

/-- A piece's own memory. -/
def pcF (x : (SV × SV) × (List Nat × List Int)) : Heap := [Row x.1.1 eB x.2.1, Row x.1.2 eI x.2.2]
def rowI (p : SV × SV) (q : List Nat × List Int) : Hp := Row p.1 eB q.1
def rowD (p : SV × SV) (q : List Nat × List Int) : Hp := Row p.2 eI q.2
theorem pcF_perm : ∀ (lp : List (SV × SV)) (ps : Pcs), (List.zipWith rowD lp ps ++ List.zipWith rowI lp ps).Perm ((lp.zip ps).flatMap pcF)
  | [], _ => by simp
  | _ :: _, [] => by simp
  | p :: lp, q :: ps => by
    rw [List.zipWith_cons_cons, List.zipWith_cons_cons, List.zip_cons_cons, List.flatMap_cons]
    have h := pcF_perm lp ps
    refine (List.Perm.cons _ (List.perm_middle)).trans ?_
    refine (List.Perm.swap _ _ _).trans ?_
    exact (h.cons _).cons _
theorem own_rows {lp : List (SV × SV)} {ps : Pcs} {lb : List (Nat × SV)} {bl : List (Nat × List Nat)} (hs : (List.zipWith rowI lp ps).Sublist (List.zipWith rowK lb bl)) : HSub ((List.zipWith rowD lp ps).reverse ++ (List.zipWith rowK lb bl).reverse) ((lp.zip ps).flatMap pcF) :=
  (HSub.perm ((List.reverse_perm _).append (List.reverse_perm _))).trans ((HSub.sublist ((List.Sublist.refl _).append hs)).trans (HSub.perm (pcF_perm lp ps)))
theorem take_two {α : Type} {l : List α} {i : Nat} {a b : α} (h : l[i]? = some a) (h2 : l[i + 1]? = some b) : l.take (i + 2) = l.take i ++ [a, b] := by
  rw [List.take_add_one, h2, List.take_add_one, h]; simp
theorem stUnpackR {G : Base} {H : Heap} {s : SV} {xs : List Nat} [hg : Glb G H] [Tab H 26 zipT] [Tab H 24 sealT] [hs : Sl H s eB xs] (hn : xs.length ≤ 1000000000) (hb : ∀ x ∈ xs, x < 256) : SC G Tryz.prog 15 [s.val] H (fun v H' =>
    (unE xs = none ∧ v = .tuple #[.agg [SV.nil.val, .int .i64 0, SV.nil.val].toArray, G.err 10] ∧ H' = H) ∨ (∃ fs n ps lp F, ∃ sf sp : SV, unE xs = some (fs, n, ps) ∧ PsIn F lp ps ∧ HSub F ((lp.zip ps).flatMap pcF) ∧ v = .tuple #[.agg [sf.val, .int .i64 ((n : Nat) : Int), sp.val].toArray, .nilIface] ∧ H' = Row sf eF fs :: Row sp eP lp :: Star F :: H)) := by
  refine SC.out (sc_walk Tryz.func15 rfl Tryz.ntmps15 (by kernel_rfl) (Nat.le_of_ble_eq_true rfl) ?_)
  refine w_seq (w_region (?_))
  refine o_st (st_alloc) rfl ?_
  rintro _ _ ⟨b1, rfl, rfl⟩
  refine o_ev (ev_assign rfl) rfl ?_
  refine o_nil (sq_n (w_seq (w_region (?_))))
  refine o_ev (ev_move rfl) rfl ?_
  refine o_st (st_call (vs := [_, _]) rfl (fUnpackO 73 (by decide) hn hb)) rfl ?_
  rintro v1 H1 hK
  rcases hK with ⟨he, rfl, e, rfl⟩ | ⟨bl, lb, F0, sbl, he, hB, hF0, rfl, rfl⟩
  · skip
    have hN : unE xs = none := by rw [unE, he]
    refine o_ev (ev_move rfl) rfl ?_
    refine o_ev (ev_extract1 rfl rfl) rfl ?_
    refine o_ev (ev_extract1 rfl rfl) rfl ?_
    refine o_ev (ev_assign rfl) rfl ?_
    refine o_ev (ev_assign rfl) rfl ?_
    refine o_nil (sq_n (w_seq (w_seq (w_region (?_)))))
    refine o_ev (ev_move rfl) rfl ?_
    refine o_ev (ev_neq_nil_val rfl) rfl ?_
    refine o_ev (ev_move rfl) rfl ?_
    refine o_off rfl rfl rfl ?_
    refine o_off rfl rfl rfl ?_
    refine o_off rfl rfl rfl ?_
    refine o_ev (ev_pick_t rfl rfl) rfl ?_
    refine o_ev (ev_move rfl) rfl ?_
    refine o_off rfl rfl rfl ?_
    refine o_off rfl rfl rfl ?_
    refine o_off rfl rfl rfl ?_
    refine o_off rfl rfl rfl ?_
    refine o_ev (ev_pick_t rfl rfl) rfl ?_
    refine o_nil (sq_n (?_))
    refine w_if_true rfl (w_seq (?_))
    refine w_draw Tryz_mixed (fun i => [2].contains i) (fun k H => (k = 1 → HasV H 10 [G.err 10])) ?_
    refine an_first 0 rfl rfl (by kernel_rfl) rfl (Qv.of_ev (fun H hH => ev_build (vs := []) rfl)) ?_
    refine an_first 1 rfl rfl (by kernel_rfl) rfl (Qv.of_ev (fun H hH => by have hN := hH rfl; exact ev_load rfl)) ?_
    refine an_step 2 rfl (by kernel_rfl) rfl (fun k hk => fun hi => by subst hi; infer_instance) (st_store rfl rfl rfl) ?_
    rintro _ _ ⟨rfl, rfl⟩
    refine an_first 3 rfl rfl (by kernel_rfl) rfl (Qv.of_ev (fun H hH => ev_assign rfl)) ?_
    refine an_nil (by kernel_rfl) (fun k hk => fun hi => by subst hi; infer_instance) (sq_n (w_ret (sq_r (?_))))
    refine res_intro (vs := [_, _]) Tryz.results15 (.inr rfl) (.cons ((.cell rfl rfl)) (.cons (.tmp rfl) (.nil))) ?_
    exact ⟨_, by (repeat (first | exact Ka | refine Kb ?_ | refine Kc ?_ | refine Kf ?_ | refine Kd ?_ | refine Ke ?_ | refine Kh ?_ | refine Kg rfl ?_ | refine Ki ?_ | refine Kj ?_ | refine Kk ?_ | refine Kl ?_ | refine Km ?_ | refine Kn ?_ | refine Ko ?_)), .inl ⟨hN, rfl, rfl⟩⟩
  · skip
    have eU : unE xs = unBl bl := by rw [unE, he]
    obtain ⟨hlen, hbod⟩ := hB
    obtain ⟨i1, i2, i3⟩ := rdImg_back hb he
    have hxl := congrArg List.length i1
    rw [imgP_len] at hxl
    have hbll := encAll_ge bl
    refine o_ev (ev_move rfl) rfl ?_
    refine o_ev (ev_extract1 rfl rfl) rfl ?_
    refine o_ev (ev_extract1 rfl rfl) rfl ?_
    refine o_ev (ev_assign rfl) rfl ?_
    refine o_ev (ev_assign rfl) rfl ?_
    refine o_nil (sq_n (w_seq (w_seq (w_region (?_)))))
    refine o_ev (ev_move rfl) rfl ?_
    refine o_ev (ev_neq_nil_nil rfl) rfl ?_
    refine o_ev (ev_move rfl) rfl ?_
    refine o_on_ev rfl rfl rfl (ev_move rfl) ?_
    refine o_on_ev rfl rfl rfl (ev_len1 rfl) ?_
    refine o_on_ev rfl rfl rfl (ev_lss rfl rfl) ?_
    refine o_ev (ev_pick_f rfl rfl) rfl ?_
    refine o_split (ev_move rfl) rfl (fun h1 => ?_) (fun h1 => ?_)
    · skip
      try simp only [Za, Zb, Zc, Zd, Ze, Zf, Zg, Zh] at h1
      have hN : unE xs = none := by rw [eU]; exact unBl_short (by omega)
      refine o_off rfl rfl rfl ?_
      refine o_off rfl rfl rfl ?_
      refine o_off rfl rfl rfl ?_
      refine o_off rfl rfl rfl ?_
      refine o_ev (ev_pick_t rfl rfl) rfl ?_
      refine o_nil (sq_n (?_))
      refine w_if_true rfl (w_seq (?_))
      refine w_draw Tryz_mixed (fun i => [2].contains i) (fun k H => (k = 1 → HasV H 10 [G.err 10])) ?_
      refine an_first 0 rfl rfl (by kernel_rfl) rfl (Qv.of_ev (fun H hH => ev_build (vs := []) rfl)) ?_
      refine an_first 1 rfl rfl (by kernel_rfl) rfl (Qv.of_ev (fun H hH => by have hN := hH rfl; exact ev_load rfl)) ?_
      refine an_step 2 rfl (by kernel_rfl) rfl (fun k hk => fun hi => by subst hi; infer_instance) (st_store rfl rfl rfl) ?_
      rintro _ _ ⟨rfl, rfl⟩
      refine an_first 3 rfl rfl (by kernel_rfl) rfl (Qv.of_ev (fun H hH => ev_assign rfl)) ?_
      refine an_nil (by kernel_rfl) (fun k hk => fun hi => by subst hi; infer_instance) (sq_n (w_ret (sq_r (?_))))
      refine res_intro (vs := [_, _]) Tryz.results15 (.inr rfl) (.cons ((.cell rfl rfl)) (.cons (.tmp rfl) (.nil))) ?_
      exact ⟨_, by (repeat (first | exact Ka | refine Kb ?_ | refine Kc ?_ | refine Kf ?_ | refine Kd ?_ | refine Ke ?_ | refine Kh ?_ | refine Kg rfl ?_ | refine Ki ?_ | refine Kj ?_ | refine Kk ?_ | refine Kl ?_ | refine Km ?_ | refine Kn ?_ | refine Ko ?_)), .inl ⟨hN, rfl, rfl⟩⟩
    · skip
      try simp only [Za, Zb, Zc, Zd, Ze, Zf, Zg, Zh] at h1
      refine o_on_ev rfl rfl rfl (ev_move rfl) ?_
      refine o_on_ev rfl rfl rfl (ev_len1 rfl) ?_
      refine o_on_ev rfl rfl rfl (ev_rem rfl rfl lb.length 2 rfl rfl (by omega)) ?_
      refine o_on_ev rfl rfl rfl (ev_neq rfl rfl) ?_
      refine o_ev (ev_pick_f rfl rfl) rfl ?_
      refine o_nil (sq_n (?_))
      refine w_if rfl (fun h2 => ?_) (fun h2 => ?_)
      · skip
        try simp only [Za, Zb, Zc, Zd, Ze, Zf, Zg, Zh] at h2
        have hN : unE xs = none := by rw [eU]; exact unBl_odd (by omega)
        refine w_seq (?_)
        refine w_draw Tryz_mixed (fun i => [2].contains i) (fun k H => (k = 1 → HasV H 10 [G.err 10])) ?_
        refine an_first 0 rfl rfl (by kernel_rfl) rfl (Qv.of_ev (fun H hH => ev_build (vs := []) rfl)) ?_
        refine an_first 1 rfl rfl (by kernel_rfl) rfl (Qv.of_ev (fun H hH => by have hN := hH rfl; exact ev_load rfl)) ?_
        refine an_step 2 rfl (by kernel_rfl) rfl (fun k hk => fun hi => by subst hi; infer_instance) (st_store rfl rfl rfl) ?_
        rintro _ _ ⟨rfl, rfl⟩
        refine an_first 3 rfl rfl (by kernel_rfl) rfl (Qv.of_ev (fun H hH => ev_assign rfl)) ?_
        refine an_nil (by kernel_rfl) (fun k hk => fun hi => by subst hi; infer_instance) (sq_n (w_ret (sq_r (?_))))
        refine res_intro (vs := [_, _]) Tryz.results15 (.inr rfl) (.cons ((.cell rfl rfl)) (.cons (.tmp rfl) (.nil))) ?_
        exact ⟨_, by (repeat (first | exact Ka | refine Kb ?_ | refine Kc ?_ | refine Kf ?_ | refine Kd ?_ | refine Ke ?_ | refine Kh ?_ | refine Kg rfl ?_ | refine Ki ?_ | refine Kj ?_ | refine Kk ?_ | refine Kl ?_ | refine Km ?_ | refine Kn ?_ | refine Ko ?_)), .inl ⟨hN, rfl, rfl⟩⟩
      · skip
        try simp only [Za, Zb, Zc, Zd, Ze, Zf, Zg, Zh] at h2
        obtain ⟨pa, hpa⟩ : ∃ p, lb[0]? = some p := ⟨_, List.getElem?_eq_getElem (by omega)⟩
        obtain ⟨pb, hpb⟩ : ∃ p, lb[1]? = some p := ⟨_, List.getElem?_eq_getElem (by omega)⟩
        obtain ⟨qa, hqa⟩ : ∃ p, bl[0]? = some p := ⟨_, List.getElem?_eq_getElem (by omega)⟩
        obtain ⟨qb, hqb⟩ : ∃ p, bl[1]? = some p := ⟨_, List.getElem?_eq_getElem (by omega)⟩
        obtain ⟨ea, Sa⟩ := hbod 0 pa qa hpa hqa
        obtain ⟨eb, Sb⟩ := hbod 1 pb qb hpb hqb
        have la := encB_mem_len (List.mem_of_getElem? hqa)
        have lb1 := encB_mem_len (List.mem_of_getElem? hqb)
        have ba := (i3 qa (List.mem_of_getElem? hqa)).2
        have bb := (i3 qb (List.mem_of_getElem? hqb)).2
        have ba1 := (i3 qa (List.mem_of_getElem? hqa)).1
        have bb1 := (i3 qb (List.mem_of_getElem? hqb)).1
        have e0 := unBl_two hqa hqb (by omega)
        rw [← eU] at e0
        have key : rdHd qa qb = none → unE xs = none := fun h => by rw [e0, h]
        refine w_skip (sq_n (w_seq (w_seq (w_region (?_)))))
        refine o_ev (ev_move rfl) rfl ?_
        refine o_ev (ev_indexAddr rfl rfl 0 rfl (by omega)) rfl ?_
        refine o_ev (ev_fieldAddr_elt rfl (by omega)) rfl ?_
        refine o_ev (ev_load_fl rfl (by rfl) pa hpa (by rfl)) rfl ?_
        refine o_ev (ev_neq rfl rfl) rfl ?_
        refine o_split (ev_move rfl) rfl (fun h3 => ?_) (fun h3 => ?_)
        · skip
          try simp only [Za, Zb, Zc, Zd, Ze, Zf, Zg, Zh] at h3
          have hN : unE xs = none := key (by rw [rdHd, if_pos (.inl (by omega))])
          refine o_off rfl rfl rfl ?_
          refine o_off rfl rfl rfl ?_
          refine o_off rfl rfl rfl ?_
          refine o_off rfl rfl rfl ?_
          refine o_off rfl rfl rfl ?_
          refine o_ev (ev_pick_t rfl rfl) rfl ?_
          refine o_nil (sq_n (?_))
          refine w_if_true rfl (w_seq (?_))
          refine w_draw Tryz_mixed (fun i => [2].contains i) (fun k H => (k = 1 → HasV H 10 [G.err 10])) ?_
          refine an_first 0 rfl rfl (by kernel_rfl) rfl (Qv.of_ev (fun H hH => ev_build (vs := []) rfl)) ?_
          refine an_first 1 rfl rfl (by kernel_rfl) rfl (Qv.of_ev (fun H hH => by have hN := hH rfl; exact ev_load rfl)) ?_
          refine an_step 2 rfl (by kernel_rfl) rfl (fun k hk => fun hi => by subst hi; infer_instance) (st_store rfl rfl rfl) ?_
          rintro _ _ ⟨rfl, rfl⟩
          refine an_first 3 rfl rfl (by kernel_rfl) rfl (Qv.of_ev (fun H hH => ev_assign rfl)) ?_
          refine an_nil (by kernel_rfl) (fun k hk => fun hi => by subst hi; infer_instance) (sq_n (w_ret (sq_r (?_))))
          refine res_intro (vs := [_, _]) Tryz.results15 (.inr rfl) (.cons ((.cell rfl rfl)) (.cons (.tmp rfl) (.nil))) ?_
          exact ⟨_, by (repeat (first | exact Ka | refine Kb ?_ | refine Kc ?_ | refine Kf ?_ | refine Kd ?_ | refine Ke ?_ | refine Kh ?_ | refine Kg rfl ?_ | refine Ki ?_ | refine Kj ?_ | refine Kk ?_ | refine Kl ?_ | refine Km ?_ | refine Kn ?_ | refine Ko ?_)), .inl ⟨hN, rfl, rfl⟩⟩
        · skip
          try simp only [Za, Zb, Zc, Zd, Ze, Zf, Zg, Zh] at h3
          refine o_on_ev rfl rfl rfl (ev_move rfl) ?_
          refine o_on_ev rfl rfl rfl (ev_indexAddr rfl rfl 1 rfl (by omega)) ?_
          refine o_on_ev rfl rfl rfl (ev_fieldAddr_elt rfl (by omega)) ?_
          refine o_on_ev rfl rfl rfl (ev_load_fl rfl (by rfl) pb hpb (by rfl)) ?_
          refine o_on_ev rfl rfl rfl (ev_neq rfl rfl) ?_
          refine o_ev (ev_pick_f rfl rfl) rfl ?_
          refine o_nil (sq_n (?_))
          refine w_if rfl (fun h4 => ?_) (fun h4 => ?_)
          · skip
            try simp only [Za, Zb, Zc, Zd, Ze, Zf, Zg, Zh] at h4
            have hN : unE xs = none := key (by rw [rdHd, if_pos (.inr (by omega))])
            refine w_seq (?_)
            refine w_draw Tryz_mixed (fun i => [2].contains i) (fun k H => (k = 1 → HasV H 10 [G.err 10])) ?_
            refine an_first 0 rfl rfl (by kernel_rfl) rfl (Qv.of_ev (fun H hH => ev_build (vs := []) rfl)) ?_
            refine an_first 1 rfl rfl (by kernel_rfl) rfl (Qv.of_ev (fun H hH => by have hN := hH rfl; exact ev_load rfl)) ?_
            refine an_step 2 rfl (by kernel_rfl) rfl (fun k hk => fun hi => by subst hi; infer_instance) (st_store rfl rfl rfl) ?_
            rintro _ _ ⟨rfl, rfl⟩
            refine an_first 3 rfl rfl (by kernel_rfl) rfl (Qv.of_ev (fun H hH => ev_assign rfl)) ?_
            refine an_nil (by kernel_rfl) (fun k hk => fun hi => by subst hi; infer_instance) (sq_n (w_ret (sq_r (?_))))
            refine res_intro (vs := [_, _]) Tryz.results15 (.inr rfl) (.cons ((.cell rfl rfl)) (.cons (.tmp rfl) (.nil))) ?_
            exact ⟨_, by (repeat (first | exact Ka | refine Kb ?_ | refine Kc ?_ | refine Kf ?_ | refine Kd ?_ | refine Ke ?_ | refine Kh ?_ | refine Kg rfl ?_ | refine Ki ?_ | refine Kj ?_ | refine Kk ?_ | refine Kl ?_ | refine Km ?_ | refine Kn ?_ | refine Ko ?_)), .inl ⟨hN, rfl, rfl⟩⟩
          · skip
            try simp only [Za, Zb, Zc, Zd, Ze, Zf, Zg, Zh] at h4
            have e1 : rdHd qa qb = match decS qa.2 with
              | none => none
              | some fs =>
                match rdUpto 1099511627776 qb.2 with
                | .error _ => none
                | .ok (n, m) => if m < qb.2.length then none else some (fs, n) := by
              rw [rdHd, if_neg (by omega)]
              rfl
            refine w_skip (sq_n (w_seq (w_region (?_))))
            refine o_ev (ev_move rfl) rfl ?_
            refine o_ev (ev_indexAddr rfl rfl 0 rfl (by omega)) rfl ?_
            refine o_ev (ev_fieldAddr_elt rfl (by omega)) rfl ?_
            refine o_ev (ev_load_fl rfl (by rfl) pa hpa (by rfl)) rfl ?_
            refine o_st (st_call (vs := [_]) rfl (sDecode (xs := qa.2) (by omega) ba)) rfl ?_
            rintro v1 H1 hK
            rcases hK with ⟨he2, rfl, s2, e, rfl⟩ | ⟨fs, sf, he2, rfl, rfl⟩
            · skip
              have hN : unE xs = none := key (by rw [e1, he2])
              refine o_ev (ev_move rfl) rfl ?_
              refine o_ev (ev_extract1 rfl rfl) rfl ?_
              refine o_ev (ev_extract1 rfl rfl) rfl ?_
              refine o_st (st_alloc) rfl ?_
              rintro _ _ ⟨b6, rfl, rfl⟩
              refine o_st (st_store rfl rfl rfl) rfl ?_
              rintro _ _ ⟨rfl, rfl⟩
              refine o_ev (ev_assign rfl) rfl ?_
              refine o_nil (sq_n (w_seq (w_seq (w_region (?_)))))
              refine o_ev (ev_move rfl) rfl ?_
              refine o_ev (ev_neq_nil_val rfl) rfl ?_
              refine o_nil (sq_n (?_))
              refine w_if_true rfl (w_seq (?_))
              refine w_draw Tryz_mixed (fun i => [2].contains i) (fun k H => (k = 1 → HasV H 10 [G.err 10])) ?_
              refine an_first 0 rfl rfl (by kernel_rfl) rfl (Qv.of_ev (fun H hH => ev_build (vs := []) rfl)) ?_
              refine an_first 1 rfl rfl (by kernel_rfl) rfl (Qv.of_ev (fun H hH => by have hN := hH rfl; exact ev_load rfl)) ?_
              refine an_step 2 rfl (by kernel_rfl) rfl (fun k hk => fun hi => by subst hi; infer_instance) (st_store rfl rfl rfl) ?_
              rintro _ _ ⟨rfl, rfl⟩
              refine an_first 3 rfl rfl (by kernel_rfl) rfl (Qv.of_ev (fun H hH => ev_assign rfl)) ?_
              refine an_nil (by kernel_rfl) (fun k hk => fun hi => by subst hi; infer_instance) (sq_n (w_ret (sq_r (?_))))
              refine res_intro (vs := [_, _]) Tryz.results15 (.inr rfl) (.cons ((.cell rfl rfl)) (.cons (.tmp rfl) (.nil))) ?_
              exact ⟨_, by (repeat (first | exact Ka | refine Kb ?_ | refine Kc ?_ | refine Kf ?_ | refine Kd ?_ | refine Ke ?_ | refine Kh ?_ | refine Kg rfl ?_ | refine Ki ?_ | refine Kj ?_ | refine Kk ?_ | refine Kl ?_ | refine Km ?_ | refine Kn ?_ | refine Ko ?_)), .inl ⟨hN, rfl, rfl⟩⟩
            · skip
              rw [he2] at e1
              simp only [] at e1
              refine o_ev (ev_move rfl) rfl ?_
              refine o_ev (ev_extract1 rfl rfl) rfl ?_
              refine o_ev (ev_extract1 rfl rfl) rfl ?_
              refine o_st (st_alloc) rfl ?_
              rintro _ _ ⟨b6, rfl, rfl⟩
              refine o_st (st_store rfl rfl rfl) rfl ?_
              rintro _ _ ⟨rfl, rfl⟩
              refine o_ev (ev_assign rfl) rfl ?_
              refine o_nil (sq_n (w_seq (w_seq (w_region (?_)))))
              refine o_ev (ev_move rfl) rfl ?_
              refine o_ev (ev_neq_nil_nil rfl) rfl ?_
              refine o_nil (sq_n (?_))
              refine w_if_false rfl (w_skip (sq_n (w_seq (w_region (?_)))))
              refine o_ev (ev_move rfl) rfl ?_
              refine o_ev (ev_indexAddr rfl rfl 1 rfl (by omega)) rfl ?_
              refine o_ev (ev_fieldAddr_elt rfl (by omega)) rfl ?_
              refine o_ev (ev_load_fl rfl (by rfl) pb hpb (by rfl)) rfl ?_
              refine o_st (st_call (vs := [_]) rfl (newReader (xs := qb.2) (by omega))) rfl ?_
              rintro _ _ ⟨br, rfl, rfl⟩
              refine o_ev (ev_assign rfl) rfl ?_
              refine o_nil (sq_n (w_seq (w_region (?_))))
              refine o_ev (ev_move rfl) rfl ?_
              refine o_st (st_call (vs := [_, _]) rfl (rUpto (most := 1099511627776) (Nat.zero_le _) (by omega) bb (by omega))) rfl ?_
              rintro v1 H1 hK
              rw [List.drop_zero] at hK
              rcases hK with ⟨e, he3, rfl, rfl⟩ | ⟨n, m, he3, rfl, rfl⟩
              · skip
                have hN : unE xs = none := key (by rw [e1, he3])
                refine o_ev (ev_move rfl) rfl ?_
                refine o_ev (ev_extract1 rfl rfl) rfl ?_
                refine o_ev (ev_extract1 rfl rfl) rfl ?_
                refine o_ev (ev_assign rfl) rfl ?_
                refine o_ev (ev_assign rfl) rfl ?_
                refine o_nil (sq_n (w_seq (w_seq (w_region (?_)))))
                refine o_ev (ev_move rfl) rfl ?_
                refine o_ev (ev_neq_nil_val rfl) rfl ?_
                refine o_ev (ev_move rfl) rfl ?_
                refine o_off rfl rfl rfl ?_
                refine o_off rfl rfl rfl ?_
                refine o_off rfl rfl rfl ?_
                refine o_off rfl rfl rfl ?_
                refine o_off rfl rfl rfl ?_
                refine o_ev (ev_pick_t rfl rfl) rfl ?_
                refine o_nil (sq_n (?_))
                refine w_if_true rfl (w_seq (?_))
                refine w_draw Tryz_mixed (fun i => [2].contains i) (fun k H => (k = 1 → HasV H 10 [G.err 10])) ?_
                refine an_first 0 rfl rfl (by kernel_rfl) rfl (Qv.of_ev (fun H hH => ev_build (vs := []) rfl)) ?_
                refine an_first 1 rfl rfl (by kernel_rfl) rfl (Qv.of_ev (fun H hH => by have hN := hH rfl; exact ev_load rfl)) ?_
                refine an_step 2 rfl (by kernel_rfl) rfl (fun k hk => fun hi => by subst hi; infer_instance) (st_store rfl rfl rfl) ?_
                rintro _ _ ⟨rfl, rfl⟩
                refine an_first 3 rfl rfl (by kernel_rfl) rfl (Qv.of_ev (fun H hH => ev_assign rfl)) ?_
                refine an_nil (by kernel_rfl) (fun k hk => fun hi => by subst hi; infer_instance) (sq_n (w_ret (sq_r (?_))))
                refine res_intro (vs := [_, _]) Tryz.results15 (.inr rfl) (.cons ((.cell rfl rfl)) (.cons (.tmp rfl) (.nil))) ?_
                exact ⟨_, by (repeat (first | exact Ka | refine Kb ?_ | refine Kc ?_ | refine Kf ?_ | refine Kd ?_ | refine Ke ?_ | refine Kh ?_ | refine Kg rfl ?_ | refine Ki ?_ | refine Kj ?_ | refine Kk ?_ | refine Kl ?_ | refine Km ?_ | refine Kn ?_ | refine Ko ?_)), .inl ⟨hN, rfl, rfl⟩⟩
              · skip
                rw [he3] at e1
                simp only [] at e1
                rw [Nat.zero_add m]
                obtain ⟨u1, u2, u3, u4⟩ := rdUpto_ok bb he3
                refine o_ev (ev_move rfl) rfl ?_
                refine o_ev (ev_extract1 rfl rfl) rfl ?_
                refine o_ev (ev_extract1 rfl rfl) rfl ?_
                refine o_ev (ev_assign rfl) rfl ?_
                refine o_ev (ev_assign rfl) rfl ?_
                refine o_nil (sq_n (w_seq (w_seq (w_region (?_)))))
                refine o_ev (ev_move rfl) rfl ?_
                refine o_ev (ev_neq_nil_nil rfl) rfl ?_
                refine o_ev (ev_move rfl) rfl ?_
                refine o_on_ev rfl rfl rfl (ev_move rfl) ?_
                refine o_on_ev rfl rfl rfl (ev_nilCheck rfl) ?_
                refine o_on_ev rfl rfl rfl (ev_fieldAddr rfl) ?_
                refine o_on rfl rfl rfl (st_call (vs := [_]) rfl (spanDone (by omega))) ?_
                rintro v1 H1 ⟨rfl, hK⟩
                rcases hK with ⟨hlt, rfl⟩ | ⟨heq, rfl⟩
                · skip
                  have hN : unE xs = none := key (by rw [e1, if_pos hlt])
                  refine o_on_ev rfl rfl rfl (ev_neq_nil_val rfl) ?_
                  refine o_ev (ev_pick_f rfl rfl) rfl ?_
                  refine o_nil (sq_n (?_))
                  refine w_if_true rfl (w_seq (?_))
                  refine w_draw Tryz_mixed (fun i => [2].contains i) (fun k H => (k = 1 → HasV H 10 [G.err 10])) ?_
                  refine an_first 0 rfl rfl (by kernel_rfl) rfl (Qv.of_ev (fun H hH => ev_build (vs := []) rfl)) ?_
                  refine an_first 1 rfl rfl (by kernel_rfl) rfl (Qv.of_ev (fun H hH => by have hN := hH rfl; exact ev_load rfl)) ?_
                  refine an_step 2 rfl (by kernel_rfl) rfl (fun k hk => fun hi => by subst hi; infer_instance) (st_store rfl rfl rfl) ?_
                  rintro _ _ ⟨rfl, rfl⟩
                  refine an_first 3 rfl rfl (by kernel_rfl) rfl (Qv.of_ev (fun H hH => ev_assign rfl)) ?_
                  refine an_nil (by kernel_rfl) (fun k hk => fun hi => by subst hi; infer_instance) (sq_n (w_ret (sq_r (?_))))
                  refine res_intro (vs := [_, _]) Tryz.results15 (.inr rfl) (.cons ((.cell rfl rfl)) (.cons (.tmp rfl) (.nil))) ?_
                  exact ⟨_, by (repeat (first | exact Ka | refine Kb ?_ | refine Kc ?_ | refine Kf ?_ | refine Kd ?_ | refine Ke ?_ | refine Kh ?_ | refine Kg rfl ?_ | refine Ki ?_ | refine Kj ?_ | refine Kk ?_ | refine Kl ?_ | refine Km ?_ | refine Kn ?_ | refine Ko ?_)), .inl ⟨hN, rfl, rfl⟩⟩
                · skip
                  rw [if_neg (by omega)] at e1
                  have e2 : unE xs = match rdPs (bl.drop 2) with
                    | none => none
                    | some ps => some (fs, n, ps) := by rw [e0, e1]
                  refine o_on_ev rfl rfl rfl (ev_neq_nil_nil rfl) ?_
                  refine o_ev (ev_pick_f rfl rfl) rfl ?_
                  refine o_nil (sq_n (?_))
                  refine w_if_false rfl (w_skip (sq_n (w_seq (w_region (?_)))))
                  refine o_ev (ev_loadS rfl) rfl ?_
                  refine o_ev (ev_move rfl) rfl ?_
                  refine o_ev (ev_build (vs := [(0, _), (1, _)]) rfl) rfl ?_
                  refine o_st (st_alloc) rfl ?_
                  rintro _ _ ⟨b9, rfl, rfl⟩
                  refine o_st (st_store rfl rfl rfl) rfl ?_
                  rintro _ _ ⟨rfl, rfl⟩
                  refine o_nil (sq_n (w_seq (w_seq (w_region (?_)))))
                  refine o_ev (ev_assign rfl) rfl ?_
                  refine o_nil (sq_n (w_block (?_)))
                  refine w_loop (SV × Nat × List (SV × SV) × Pcs × Heap) (fun y => 2 ≤ y.2.1 ∧ y.2.1 ≤ bl.length ∧ y.2.1 % 2 = 0 ∧ y.2.2.1.length ≤ y.2.1 ∧ PsIn y.2.2.2.2 y.2.2.1 y.2.2.2.1 ∧ Bods y.2.2.2.2 lb bl ∧ rdPs (bl.drop 2) = glueQ y.2.2.2.1 (rdPs (bl.drop y.2.1)) ∧ y.2.2.2.2 = (List.zipWith rowD y.2.2.1 y.2.2.2.1).reverse ++ F0 ∧ (List.zipWith rowI y.2.2.1 y.2.2.2.1).Sublist (List.zipWith rowK (lb.take y.2.1) (bl.take y.2.1))) (fun y => [(2, .pointer (some ⟨b1, 0, none⟩)), (4, sbl.val), (9, .pointer (some ⟨b9, 0, none⟩)), (10, .int .i64 ((y.2.1 : Nat) : Int))]) (fun y => Vr b9 [sf.val, .int .i64 ((n : Nat) : Int), y.1.val] :: Row y.1 eP y.2.2.1 :: Row sf eF fs :: Row sbl eK lb :: Star y.2.2.2.2 :: Vr b1 [SV.nil.val, .int .i64 0, SV.nil.val] :: H) (fun y => bl.length - y.2.1) ((SV.nil, 2, [], [], F0)) ?_ ?_ ?_ ?_
                  · (try dsimp only)
                    refine ⟨Nat.le_refl _, by omega, rfl, Nat.zero_le _, PsIn.nil, ⟨hlen, hbod⟩, ?_, rfl, List.nil_sublist _⟩
                    cases rdPs (bl.drop 2) with
                    | none => rfl
                    | some r => rfl
                  · repeat (first | exact Sub.nil | refine Sub.cons rfl ?_)
                  · (try dsimp only)
                    (repeat (first | exact Ka | refine Kb ?_ | refine Kc ?_ | refine Kf ?_ | refine Kd ?_ | refine Ke ?_ | refine Kh ?_ | refine Kg rfl ?_ | refine Ki ?_ | refine Kj ?_ | refine Kk ?_ | refine Kl ?_ | refine Km ?_ | refine Kn ?_ | refine Ko ?_))
                  · rintro ⟨sp, i, lp, ps, F⟩ ⟨hi2, hil, hie, hll, hPs, hBF, hI, hFD, hFI⟩
                    (try dsimp only at *)
                    refine w_seq (w_seq (w_region (?_)))
                    refine o_ev (ev_move rfl) rfl ?_
                    refine o_ev (ev_move rfl) rfl ?_
                    refine o_ev (ev_len1 rfl) rfl ?_
                    refine o_ev (ev_lss rfl rfl) rfl ?_
                    refine o_nil (sq_n (?_))
                    refine w_if rfl (fun h5 => ?_) (fun h5 => ?_)
                    · skip
                      try simp only [Za, Zb, Zc, Zd, Ze, Zf, Zg, Zh] at h5
                      obtain ⟨p, hp⟩ : ∃ p, lb[i]? = some p := ⟨_, List.getElem?_eq_getElem (by omega)⟩
                      obtain ⟨p2, hp2⟩ : ∃ p, lb[i + 1]? = some p := ⟨_, List.getElem?_eq_getElem (by omega)⟩
                      obtain ⟨q, hq⟩ : ∃ p, bl[i]? = some p := ⟨_, List.getElem?_eq_getElem (by omega)⟩
                      obtain ⟨q2, hq2⟩ : ∃ p, bl[i + 1]? = some p := ⟨_, List.getElem?_eq_getElem (by omega)⟩
                      obtain ⟨ep, Sp⟩ := hBF.2 i p q hp hq
                      obtain ⟨ep2, Sp2⟩ := hBF.2 (i + 1) p2 q2 hp2 hq2
                      have lq := encB_mem_len (List.mem_of_getElem? hq)
                      have lq2 := encB_mem_len (List.mem_of_getElem? hq2)
                      have bq := (i3 q (List.mem_of_getElem? hq)).2
                      have bq2 := (i3 q2 (List.mem_of_getElem? hq2)).2
                      have bq1 := (i3 q (List.mem_of_getElem? hq)).1
                      have bq21 := (i3 q2 (List.mem_of_getElem? hq2)).1
                      rw [drop_get hq, drop_get hq2, rdPs] at hI
                      refine w_skip (sq_n (w_seq (w_block (w_seq (w_seq (w_region (?_)))))))
                      refine o_ev (ev_move rfl) rfl ?_
                      refine o_ev (ev_move rfl) rfl ?_
                      refine o_ev (ev_indexAddr rfl rfl i rfl (by omega)) rfl ?_
                      refine o_ev (ev_fieldAddr_elt rfl (by omega)) rfl ?_
                      refine o_ev (ev_load_fl rfl (by rfl) p hp (by rfl)) rfl ?_
                      refine o_ev (ev_neq rfl rfl) rfl ?_
                      refine o_split (ev_move rfl) rfl (fun h6 => ?_) (fun h6 => ?_)
                      · skip
                        try simp only [Za, Zb, Zc, Zd, Ze, Zf, Zg, Zh] at h6
                        have hN : unE xs = none := by rw [e2, hI, if_pos (.inl (by omega))]; rfl
                        refine o_off rfl rfl rfl ?_
                        refine o_off rfl rfl rfl ?_
                        refine o_off rfl rfl rfl ?_
                        refine o_off rfl rfl rfl ?_
                        refine o_off rfl rfl rfl ?_
                        refine o_off rfl rfl rfl ?_
                        refine o_off rfl rfl rfl ?_
                        refine o_ev (ev_pick_t rfl rfl) rfl ?_
                        refine o_nil (sq_n (?_))
                        refine w_if_true rfl (w_seq (?_))
                        refine w_draw Tryz_mixed (fun i => [2].contains i) (fun k H => (k = 1 → HasV H 10 [G.err 10])) ?_
                        refine an_first 0 rfl rfl (by kernel_rfl) rfl (Qv.of_ev (fun H hH => ev_build (vs := []) rfl)) ?_
                        refine an_first 1 rfl rfl (by kernel_rfl) rfl (Qv.of_ev (fun H hH => by have hN := hH rfl; exact ev_load rfl)) ?_
                        refine an_step 2 rfl (by kernel_rfl) rfl (fun k hk => fun hi => by subst hi; infer_instance) (st_store rfl rfl rfl) ?_
                        rintro _ _ ⟨rfl, rfl⟩
                        refine an_first 3 rfl rfl (by kernel_rfl) rfl (Qv.of_ev (fun H hH => ev_assign rfl)) ?_
                        refine an_nil (by kernel_rfl) (fun k hk => fun hi => by subst hi; infer_instance) (sq_n (w_ret (sq_r (bk_r (sq_r (lq_r (bk_r (sq_r (?_)))))))))
                        refine res_intro (vs := [_, _]) Tryz.results15 (.inr rfl) (.cons ((.cell rfl rfl)) (.cons (.tmp rfl) (.nil))) ?_
                        exact ⟨_, by (repeat (first | exact Ka | refine Kb ?_ | refine Kc ?_ | refine Kf ?_ | refine Kd ?_ | refine Ke ?_ | refine Kh ?_ | refine Kg rfl ?_ | refine Ki ?_ | refine Kj ?_ | refine Kk ?_ | refine Kl ?_ | refine Km ?_ | refine Kn ?_ | refine Ko ?_)), .inl ⟨hN, rfl, rfl⟩⟩
                      · skip
                        try simp only [Za, Zb, Zc, Zd, Ze, Zf, Zg, Zh] at h6
                        refine o_on_ev rfl rfl rfl (ev_move rfl) ?_
                        refine o_on_ev rfl rfl rfl (ev_move rfl) ?_
                        refine o_on_ev rfl rfl rfl (ev_add rfl rfl (by omega)) ?_
                        refine o_on_ev rfl rfl rfl (ev_indexAddr rfl rfl (i + 1) rfl (by omega)) ?_
                        refine o_on_ev rfl rfl rfl (ev_fieldAddr_elt rfl (by omega)) ?_
                        refine o_on_ev rfl rfl rfl (ev_load_fl rfl (by rfl) p2 hp2 (by rfl)) ?_
                        refine o_on_ev rfl rfl rfl (ev_neq rfl rfl) ?_
                        refine o_ev (ev_pick_f rfl rfl) rfl ?_
                        refine o_nil (sq_n (?_))
                        refine w_if rfl (fun h7 => ?_) (fun h7 => ?_)
                        · skip
                          try simp only [Za, Zb, Zc, Zd, Ze, Zf, Zg, Zh] at h7
                          have hN : unE xs = none := by rw [e2, hI, if_pos (.inr (by omega))]; rfl
                          refine w_seq (?_)
                          refine w_draw Tryz_mixed (fun i => [2].contains i) (fun k H => (k = 1 → HasV H 10 [G.err 10])) ?_
                          refine an_first 0 rfl rfl (by kernel_rfl) rfl (Qv.of_ev (fun H hH => ev_build (vs := []) rfl)) ?_
                          refine an_first 1 rfl rfl (by kernel_rfl) rfl (Qv.of_ev (fun H hH => by have hN := hH rfl; exact ev_load rfl)) ?_
                          refine an_step 2 rfl (by kernel_rfl) rfl (fun k hk => fun hi => by subst hi; infer_instance) (st_store rfl rfl rfl) ?_
                          rintro _ _ ⟨rfl, rfl⟩
                          refine an_first 3 rfl rfl (by kernel_rfl) rfl (Qv.of_ev (fun H hH => ev_assign rfl)) ?_
                          refine an_nil (by kernel_rfl) (fun k hk => fun hi => by subst hi; infer_instance) (sq_n (w_ret (sq_r (bk_r (sq_r (lq_r (bk_r (sq_r (?_)))))))))
                          refine res_intro (vs := [_, _]) Tryz.results15 (.inr rfl) (.cons ((.cell rfl rfl)) (.cons (.tmp rfl) (.nil))) ?_
                          exact ⟨_, by (repeat (first | exact Ka | refine Kb ?_ | refine Kc ?_ | refine Kf ?_ | refine Kd ?_ | refine Ke ?_ | refine Kh ?_ | refine Kg rfl ?_ | refine Ki ?_ | refine Kj ?_ | refine Kk ?_ | refine Kl ?_ | refine Km ?_ | refine Kn ?_ | refine Ko ?_)), .inl ⟨hN, rfl, rfl⟩⟩
                        · skip
                          try simp only [Za, Zb, Zc, Zd, Ze, Zf, Zg, Zh] at h7
                          rw [if_neg (by omega)] at hI
                          refine w_skip (sq_n (w_seq (w_region (?_))))
                          refine o_ev (ev_move rfl) rfl ?_
                          refine o_ev (ev_move rfl) rfl ?_
                          refine o_ev (ev_add rfl rfl (by omega)) rfl ?_
                          refine o_ev (ev_indexAddr rfl rfl (i + 1) rfl (by omega)) rfl ?_
                          refine o_ev (ev_fieldAddr_elt rfl (by omega)) rfl ?_
                          refine o_ev (ev_load_fl rfl (by rfl) p2 hp2 (by rfl)) rfl ?_
                          refine o_st (st_call (vs := [_]) rfl (newReader (xs := q2.2) (by omega))) rfl ?_
                          rintro _ _ ⟨br2, rfl, rfl⟩
                          refine o_ev (ev_assign rfl) rfl ?_
                          refine o_nil (sq_n (w_seq (w_region (?_))))
                          refine o_ev (ev_move rfl) rfl ?_
                          refine o_ev (ev_move rfl) rfl ?_
                          refine o_ev (ev_move rfl) rfl ?_
                          refine o_ev (ev_add rfl rfl (by omega)) rfl ?_
                          refine o_ev (ev_indexAddr rfl rfl (i + 1) rfl (by omega)) rfl ?_
                          refine o_ev (ev_fieldAddr_elt rfl (by omega)) rfl ?_
                          refine o_ev (ev_load_fl rfl (by rfl) p2 hp2 (by rfl)) rfl ?_
                          refine o_ev (ev_len1 rfl) rfl ?_
                          refine o_st (st_call (vs := [_, _]) rfl (rRising (xs := q2.2) (most := q2.2.length) (Nat.zero_le _) (by omega) bq2 (by omega))) rfl ?_
                          rintro v1 H1 hK
                          rw [List.drop_zero] at hK
                          rcases hK with ⟨e, he4, rfl, rfl⟩ | ⟨d, m2, s4, he4, rfl, rfl⟩
                          · skip
                            have hN : unE xs = none := by rw [e2, hI, he4]; rfl
                            refine o_ev (ev_move rfl) rfl ?_
                            refine o_ev (ev_extract1 rfl rfl) rfl ?_
                            refine o_ev (ev_extract1 rfl rfl) rfl ?_
                            refine o_ev (ev_assign rfl) rfl ?_
                            refine o_ev (ev_assign rfl) rfl ?_
                            refine o_nil (sq_n (w_seq (w_seq (w_region (?_)))))
                            refine o_ev (ev_move rfl) rfl ?_
                            refine o_ev (ev_neq_nil_val rfl) rfl ?_
                            refine o_ev (ev_move rfl) rfl ?_
                            refine o_off rfl rfl rfl ?_
                            refine o_off rfl rfl rfl ?_
                            refine o_off rfl rfl rfl ?_
                            refine o_off rfl rfl rfl ?_
                            refine o_off rfl rfl rfl ?_
                            refine o_ev (ev_pick_t rfl rfl) rfl ?_
                            refine o_nil (sq_n (?_))
                            refine w_if_true rfl (w_seq (?_))
                            refine w_draw Tryz_mixed (fun i => [2].contains i) (fun k H => (k = 1 → HasV H 10 [G.err 10])) ?_
                            refine an_first 0 rfl rfl (by kernel_rfl) rfl (Qv.of_ev (fun H hH => ev_build (vs := []) rfl)) ?_
                            refine an_first 1 rfl rfl (by kernel_rfl) rfl (Qv.of_ev (fun H hH => by have hN := hH rfl; exact ev_load rfl)) ?_
                            refine an_step 2 rfl (by kernel_rfl) rfl (fun k hk => fun hi => by subst hi; infer_instance) (st_store rfl rfl rfl) ?_
                            rintro _ _ ⟨rfl, rfl⟩
                            refine an_first 3 rfl rfl (by kernel_rfl) rfl (Qv.of_ev (fun H hH => ev_assign rfl)) ?_
                            refine an_nil (by kernel_rfl) (fun k hk => fun hi => by subst hi; infer_instance) (sq_n (w_ret (sq_r (bk_r (sq_r (lq_r (bk_r (sq_r (?_)))))))))
                            refine res_intro (vs := [_, _]) Tryz.results15 (.inr rfl) (.cons ((.cell rfl rfl)) (.cons (.tmp rfl) (.nil))) ?_
                            exact ⟨_, by (repeat (first | exact Ka | refine Kb ?_ | refine Kc ?_ | refine Kf ?_ | refine Kd ?_ | refine Ke ?_ | refine Kh ?_ | refine Kg rfl ?_ | refine Ki ?_ | refine Kj ?_ | refine Kk ?_ | refine Kl ?_ | refine Km ?_ | refine Kn ?_ | refine Ko ?_)), .inl ⟨hN, rfl, rfl⟩⟩
                          · skip
                            rw [he4] at hI
                            simp only [] at hI
                            rw [Nat.zero_add m2]
                            obtain ⟨r1, r2, r3, r4, r5⟩ := rdRising_back bq2 he4
                            refine o_ev (ev_move rfl) rfl ?_
                            refine o_ev (ev_extract1 rfl rfl) rfl ?_
                            refine o_ev (ev_extract1 rfl rfl) rfl ?_
                            refine o_ev (ev_assign rfl) rfl ?_
                            refine o_ev (ev_assign rfl) rfl ?_
                            refine o_nil (sq_n (w_seq (w_seq (w_region (?_)))))
                            refine o_ev (ev_move rfl) rfl ?_
                            refine o_ev (ev_neq_nil_nil rfl) rfl ?_
                            refine o_ev (ev_move rfl) rfl ?_
                            refine o_on_ev rfl rfl rfl (ev_move rfl) ?_
                            refine o_on_ev rfl rfl rfl (ev_nilCheck rfl) ?_
                            refine o_on_ev rfl rfl rfl (ev_fieldAddr rfl) ?_
                            refine o_on rfl rfl rfl (st_call (vs := [_]) rfl (spanDone (xs := q2.2) (by omega))) ?_
                            rintro v1 H1 ⟨rfl, hK⟩
                            rcases hK with ⟨hlt2, rfl⟩ | ⟨heq2, rfl⟩
                            · skip
                              have hN : unE xs = none := by rw [e2, hI, if_pos hlt2]; rfl
                              refine o_on_ev rfl rfl rfl (ev_neq_nil_val rfl) ?_
                              refine o_ev (ev_pick_f rfl rfl) rfl ?_
                              refine o_nil (sq_n (?_))
                              refine w_if_true rfl (w_seq (?_))
                              refine w_draw Tryz_mixed (fun i => [2].contains i) (fun k H => (k = 1 → HasV H 10 [G.err 10])) ?_
                              refine an_first 0 rfl rfl (by kernel_rfl) rfl (Qv.of_ev (fun H hH => ev_build (vs := []) rfl)) ?_
                              refine an_first 1 rfl rfl (by kernel_rfl) rfl (Qv.of_ev (fun H hH => by have hN := hH rfl; exact ev_load rfl)) ?_
                              refine an_step 2 rfl (by kernel_rfl) rfl (fun k hk => fun hi => by subst hi; infer_instance) (st_store rfl rfl rfl) ?_
                              rintro _ _ ⟨rfl, rfl⟩
                              refine an_first 3 rfl rfl (by kernel_rfl) rfl (Qv.of_ev (fun H hH => ev_assign rfl)) ?_
                              refine an_nil (by kernel_rfl) (fun k hk => fun hi => by subst hi; infer_instance) (sq_n (w_ret (sq_r (bk_r (sq_r (lq_r (bk_r (sq_r (?_)))))))))
                              refine res_intro (vs := [_, _]) Tryz.results15 (.inr rfl) (.cons ((.cell rfl rfl)) (.cons (.tmp rfl) (.nil))) ?_
                              exact ⟨_, by (repeat (first | exact Ka | refine Kb ?_ | refine Kc ?_ | refine Kf ?_ | refine Kd ?_ | refine Ke ?_ | refine Kh ?_ | refine Kg rfl ?_ | refine Ki ?_ | refine Kj ?_ | refine Kk ?_ | refine Kl ?_ | refine Km ?_ | refine Kn ?_ | refine Ko ?_)), .inl ⟨hN, rfl, rfl⟩⟩
                            · skip
                              rw [if_neg (by omega)] at hI
                              refine o_on_ev rfl rfl rfl (ev_neq_nil_nil rfl) ?_
                              refine o_ev (ev_pick_f rfl rfl) rfl ?_
                              refine o_nil (sq_n (?_))
                              refine w_if_false rfl (w_skip (sq_n (?_)))
                              refine w_draw Tryz_mixed (fun i => [9, 10, 12].contains i) (fun k H => (k = 1 → HasV H b9 [sf.val, .int .i64 ((n : Nat) : Int), sp.val]) ∧ (k = 4 → Sl H sbl eK lb) ∧ (k = 5 → Sl H sbl eK lb) ∧ (k = 6 → Sl H sbl eK lb)) ?_
                              refine an_first 0 rfl rfl (by kernel_rfl) rfl (Qv.of_ev (fun H hH => ev_fieldAddr rfl)) ?_
                              refine an_first 1 rfl rfl (by kernel_rfl) rfl (Qv.of_ev (fun H hH => by have hN := hH.1 rfl; exact ev_load rfl)) ?_
                              refine an_first 2 rfl rfl (by kernel_rfl) rfl (Qv.of_ev (fun H hH => ev_move rfl)) ?_
                              refine an_first 3 rfl rfl (by kernel_rfl) rfl (Qv.of_ev (fun H hH => ev_move rfl)) ?_
                              refine an_first 4 rfl rfl (by kernel_rfl) rfl (Qv.of_ev (fun H hH => by have hN := hH.2.1 rfl; exact ev_indexAddr rfl rfl i rfl (by omega))) ?_
                              refine an_first 5 rfl rfl (by kernel_rfl) rfl (Qv.of_ev (fun H hH => by have hN := hH.2.2.1 rfl; exact ev_fieldAddr_elt rfl (by omega))) ?_
                              refine an_first 6 rfl rfl (by kernel_rfl) rfl (Qv.of_ev (fun H hH => by have hN := hH.2.2.2 rfl; exact ev_load_fl rfl (by rfl) p hp (by rfl))) ?_
                              refine an_first 7 rfl rfl (by kernel_rfl) rfl (Qv.of_ev (fun H hH => ev_move rfl)) ?_
                              refine an_first 8 rfl rfl (by kernel_rfl) rfl (Qv.of_ev (fun H hH => ev_build (vs := [(0, _), (1, _)]) rfl)) ?_
                              refine an_step 9 rfl (by kernel_rfl) rfl (fun k hk => ⟨fun hi => by subst hi; infer_instance, fun hi => by subst hi; infer_instance, fun hi => by subst hi; infer_instance, fun hi => by subst hi; infer_instance⟩) (st_build1 eP rfl rfl) ?_
                              rintro _ _ ⟨s5, rfl, rfl⟩
                              refine an_step 10 rfl (by kernel_rfl) rfl (fun k hk => ⟨fun hi => by subst hi; infer_instance, fun hi => by subst hi; infer_instance, fun hi => by subst hi; infer_instance, fun hi => by subst hi; infer_instance⟩) (st_append rfl rfl rfl rfl (by simp only [List.length_cons, List.length_nil]; omega) (by simp only [List.length_cons, List.length_nil]; omega)) ?_
                              rintro _ _ ⟨s6, rfl, rfl⟩
                              refine an_first 11 rfl rfl (by kernel_rfl) rfl (Qv.of_ev (fun H hH => ev_fieldAddr rfl)) ?_
                              refine an_step 12 rfl (by kernel_rfl) rfl (fun k hk => ⟨fun hi => absurd hk (by subst hi; exact not_live (by kernel_rfl)), fun hi => by subst hi; infer_instance, fun hi => by subst hi; infer_instance, fun hi => by subst hi; infer_instance⟩) (st_store rfl rfl rfl) ?_
                              rintro _ _ ⟨rfl, rfl⟩
                              refine an_nil (by kernel_rfl) (fun k hk => ⟨fun hi => absurd hk (by subst hi; exact not_live (by kernel_rfl)), fun hi => absurd hk (by subst hi; exact not_live (by kernel_rfl)), fun hi => absurd hk (by subst hi; exact not_live (by kernel_rfl)), fun hi => absurd hk (by subst hi; exact not_live (by kernel_rfl))⟩) (bk_n (sq_n (w_region (?_))))
                              refine o_ev (ev_move rfl) rfl ?_
                              refine o_ev (ev_add rfl rfl (by omega)) rfl ?_
                              refine o_ev (ev_assign rfl) rfl ?_
                              refine o_nil (?_)
                              skip
                              refine lq_n ((s6, i + 2, lp ++ [(p.2, s4)], ps ++ [(q.2, d)], Row s4 eI d :: F)) ?_ ?_ ?_ ?_
                              · (try dsimp only)
                                refine ⟨by omega, by omega, by omega, by simp only [List.length_append, List.length_cons, List.length_nil]; omega, hPs.snoc (F' := Row s4 eI d :: F) p.2 s4 q.2 d (fun _ _ h => inferInstance) (fun _ _ h => inferInstance) inferInstance inferInstance, hBF.ext (fun _ _ h => inferInstance), ?_, by rw [List.zipWith_append hPs.1, hFD, List.reverse_append]; rfl, by
                                  rw [List.zipWith_append hPs.1, take_two hp hp2, take_two hq hq2, List.zipWith_append (by rw [List.length_take, List.length_take, hlen])]
                                  exact hFI.append (List.Sublist.cons_cons _ (List.nil_sublist _))⟩
                                rw [hI]
                                cases rdPs (bl.drop (i + 2)) with
                                | none => rfl
                                | some r => simp [glueQ]
                              · (try dsimp only)
                                omega
                              · repeat (first | exact Sub.nil | refine Sub.cons rfl ?_)
                              · (try dsimp only)
                                (repeat (first | exact Ka | refine Kb ?_ | refine Kc ?_ | refine Kf ?_ | refine Kd ?_ | refine Ke ?_ | refine Kh ?_ | refine Kg rfl ?_ | refine Ki ?_ | refine Kj ?_ | refine Kk ?_ | refine Kl ?_ | refine Km ?_ | refine Kn ?_ | refine Ko ?_))
                    · skip
                      try simp only [Za, Zb, Zc, Zd, Ze, Zf, Zg, Zh] at h5
                      obtain rfl : i = bl.length := by omega
                      rw [List.drop_of_length_le (Nat.le_refl _), rdPs] at hI
                      refine w_exit (sq_e (lq_e (bk_h (sq_n (w_seq (w_region (?_)))))))
                      refine o_ev (ev_loadS rfl) rfl ?_
                      refine o_st (st_store rfl rfl rfl) rfl ?_
                      rintro _ _ ⟨rfl, rfl⟩
                      refine o_ev (ev_assign rfl) rfl ?_
                      refine o_nil (sq_n (w_ret (?_)))
                      refine res_intro (vs := [_, _]) Tryz.results15 (.inr rfl) (.cons ((.cell rfl rfl)) (.cons (.tmp rfl) (.nil))) ?_
                      exact ⟨_, by (repeat (first | exact Ka | refine Kb ?_ | refine Kc ?_ | refine Kf ?_ | refine Kd ?_ | refine Ke ?_ | refine Kh ?_ | refine Kg rfl ?_ | refine Ki ?_ | refine Kj ?_ | refine Kk ?_ | refine Kl ?_ | refine Km ?_ | refine Kn ?_ | refine Ko ?_)), .inr ⟨fs, n, ps, lp, F, sf, sp, by rw [e2, hI]; simp [glueQ], hPs, by
                        rw [List.take_of_length_le (Nat.le_of_eq hlen), List.take_length] at hFI
                        rw [hFD, hF0]; exact own_rows hFI, rfl, rfl⟩⟩
theorem stUnpack {G : Base} {H : Heap} {s : SV} {xs : List Nat} [hg : Glb G H] [Tab H 26 zipT] [Tab H 24 sealT] [hs : Sl H s eB xs] (hn : xs.length ≤ 1000000000) (hb : ∀ x ∈ xs, x < 256) : SC G Tryz.prog 15 [s.val] H (fun v H' =>
    (unE xs = none ∧ v = .tuple #[.agg [SV.nil.val, .int .i64 0, SV.nil.val].toArray, G.err 10] ∧ H' = H) ∨ (∃ fs n ps lp F, ∃ sf sp : SV, unE xs = some (fs, n, ps) ∧ PsIn F lp ps ∧ v = .tuple #[.agg [sf.val, .int .i64 ((n : Nat) : Int), sp.val].toArray, .nilIface] ∧ H' = Row sf eF fs :: Row sp eP lp :: Star F :: H)) :=
  (stUnpackR hn hb).mono fun v H' h => h.imp id fun ⟨fs, n, ps, lp, F, sf, sp, h1, h2, _, h3, h4⟩ => ⟨fs, n, ps, lp, F, sf, sp, h1, h2, h3, h4⟩
end Go.Sx
