import Derived.Test.YtcbidldebfibkaaGreatDoorP2
set_option linter.unusedVariables false
set_option linter.unusedSimpArgs false
set_option linter.unusedSectionVars false
set_option linter.unnecessarySimpa false
namespace Go.Sx
open Go Go.Proofs
set_option maxRecDepth 100000
set_option linter.unusedSimpArgs false
set_option linter.unusedVariables false

/-! ## Indexes as they lie in memory -/
/-- A piece, as it lies in a list. -/
def eP : Enc (SV × SV) := ⟨fun p => [p.1.val, p.2.val], 2, true, fun _ => rfl, fun p v h => by simp at h; rcases h with rfl | rfl <;> rfl, by decide, fun h => by simp at h, by decide⟩
instance {p : SV × SV} : EncW eP p (.agg [p.1.val, p.2.val].toArray) := ⟨rfl⟩
instance {a b : SV} : EncV eP (.agg [a.val, b.val].toArray) (a, b) := ⟨rfl⟩
/-- What the pieces of a list hold. -/
def PsIn (H : Heap) (l : List (SV × SV)) (ps : Pcs) : Prop := l.length = ps.length ∧ ∀ (i : Nat) (p : SV × SV) (q : List Nat × List Int), l[i]? = some p → ps[i]? = some q → Sl H p.1 eB q.1 ∧ Sl H p.2 eI q.2
/-- Blocks whose bodies lie in F or in H. -/
def BodsIn (F H : Heap) (l : List (Nat × SV)) (bl : List (Nat × List Nat)) : Prop := l.length = bl.length ∧ ∀ (i : Nat) (p : Nat × SV) (q : Nat × List Nat), l[i]? = some p → bl[i]? = some q → p.1 = q.1 ∧ (Sl F p.2 eB q.2 ∨ Sl H p.2 eB q.2)
theorem BodsIn.bods {F H : Heap} {l : List (Nat × SV)} {bl : List (Nat × List Nat)} {s : SV} {α : Type} {e : Enc α} {xs : List α} (h : BodsIn F H l bl) : Bods (Row s e xs :: Star F :: H) l bl :=
  ⟨h.1, fun i p q hp hq => by
    obtain ⟨h1, h2⟩ := h.2 i p q hp hq
    rcases h2 with h2 | h2 <;> exact ⟨h1, inferInstance⟩⟩
theorem BodsIn.snoc {F F' H : Heap} {l : List (Nat × SV)} {bl : List (Nat × List Nat)} (h : BodsIn F H l bl) (x : Nat) (s : SV) (body : List Nat) (hF : ∀ (s : SV) (b : List Nat), Sl F s eB b → Sl F' s eB b) (hs : Sl F' s eB body ∨ Sl H s eB body) : BodsIn F' H (l ++ [(x, s)]) (bl ++ [(x, body)]) := by
  obtain ⟨h1, h2⟩ := h
  refine ⟨by simp [h1], fun i p q hp hq => ?_⟩
  by_cases hi : i < l.length
  · rw [List.getElem?_append_left hi] at hp
    rw [List.getElem?_append_left (by omega)] at hq
    obtain ⟨h3, h4⟩ := h2 i p q hp hq
    exact ⟨h3, h4.imp (hF _ _) id⟩
  · rw [List.getElem?_append_right (by omega)] at hp hq
    have hz : i - l.length = 0 := by
      have := (List.getElem?_eq_some_iff.1 hp).1
      simp at this; omega
    rw [hz] at hp
    rw [← h1, hz] at hq
    simp at hp hq
    subst hp; subst hq
    exact ⟨rfl, hs⟩
theorem BodsIn.nil {F H : Heap} : BodsIn F H [] [] := ⟨rfl, fun i p q h => by simp at h⟩
def glueE (bl : List (Nat × List Nat)) : Except Nat (List (Nat × List Nat)) → Except Nat (List (Nat × List Nat))
  | .ok r => .ok (bl ++ r)
  | .error e => .error e
/-- A bound on an image's length. -/
def psLen (ps : Pcs) : Nat := (ps.map fun p => p.1.length + 10 * p.2.length + 100).sum
theorem packPs_len : ∀ (ps : Pcs) (bl : List (Nat × List Nat)), OkPs ps → packPs ps = .ok bl → (encAll bl).length ≤ psLen ps ∧ bl.length = 2 * ps.length
  | [], bl, _, h => by
    simp only [packPs, Except.ok.injEq] at h
    subst h
    simp [encAll, psLen]
  | p :: ps, bl, hk, h => by
    obtain ⟨k1, k2, k3, k4⟩ := hk p (by simp)
    rw [packPs] at h
    split at h
    · cases h
    · rename_i hb
      split at h
      · cases h
      · split at h
        · cases h
        · rename_i bl' hp
          simp only [Except.ok.injEq] at h
          subst h
          simp only [Bool.not_eq_true] at hb
          obtain ⟨q1, q2⟩ := packPs_len ps bl' (fun p hp => hk p (by simp [hp])) hp
          have hrl := riseB_len hb k3
          have hul := uv_len10 (n := p.2.length) (by omega)
          have hu1 := uv_len10 (n := p.1.length) (by omega)
          have hu2 := uv_len10 (n := (uv p.2.length ++ riseB (-1) p.2).length) (by rw [List.length_append]; omega)
          have e : encAll ((3, p.1) :: (4, uv p.2.length ++ riseB (-1) p.2) :: bl') = encB 3 p.1 ++ (encB 4 (uv p.2.length ++ riseB (-1) p.2) ++ encAll bl') := by simp [encAll]
          refine ⟨?_, by simp only [List.length_cons]; omega⟩
          rw [e, List.length_append, List.length_append, encB_len, encB_len, psLen, List.map_cons, List.sum_cons, ← psLen]
          rw [List.length_append] at hu2 ⊢
          omega

theorem HSub.starPut {H R H' F : Heap} {s : SV} {α : Type} {e : Enc α} {xs : List α} [hr : RemR H s e xs R] (h : HSub R (Star F :: H')) : HSub H (Star (Row s e xs :: F) :: H') :=
  (HSub.remR hr h.keep).trans (Kl Ka)

theorem stPack {G : Base} {H : Heap} {sf sp : SV} {fs : List FV} {lp : List (SV × SV)} {ps : Pcs} {next : Int} [hg : Glb G H] [Tab H 26 zipT] [Tab H 24 sealT] [Sl H sf eF fs] [hsp : Sl H sp eP lp] (hP : PsIn H lp ps) (hk : OkPs ps) (hn : fs.length ≤ 1000000000) (hf : ∀ f ∈ fs, f.name.size ≤ 1000000000000) (hpl : ps.length ≤ 100000000) (hsum : psLen ps ≤ 900000000) :
    SC G Tryz.prog 11 [.agg [sf.val, .int .i64 next, sp.val].toArray] H (fun v H' => (∃ e, packE fs next ps = .error e ∧ v = .tuple #[.slice none 0 0, G.err e] ∧ H' = H) ∨ (∃ img, ∃ s' : SV, packE fs next ps = .ok img ∧ v = .tuple #[s'.val, .nilIface] ∧ H' = Row s' eB img :: H)) := by
  obtain ⟨hlen, hin⟩ := hP
  refine SC.out (sc_walk Tryz.func11 rfl Tryz.ntmps11 (by kernel_rfl) (Nat.le_of_ble_eq_true rfl) ?_)
  refine w_seq (w_region (?_))
  refine o_st (st_box rfl) rfl ?_
  rintro _ _ ⟨b1, rfl, rfl⟩
  refine o_ev (ev_assign rfl) rfl ?_
  refine o_ev (ev_assign rfl) rfl ?_
  refine o_nil (sq_n (w_seq (w_region (?_))))
  refine o_ev (ev_fieldAddr rfl) rfl ?_
  refine o_ev (ev_loadS rfl) rfl ?_
  refine o_st (st_call (vs := [_]) rfl (sEncode hn hf)) rfl ?_
  rintro v1 H1 hK
  rcases hK with ⟨hc, rfl, rfl⟩ | ⟨hc, s1, rfl, rfl⟩
  · skip
    refine o_ev (ev_move rfl) rfl ?_
    refine o_ev (ev_extract1 rfl rfl) rfl ?_
    refine o_ev (ev_extract1 rfl rfl) rfl ?_
    refine o_ev (ev_assign rfl) rfl ?_
    refine o_ev (ev_assign rfl) rfl ?_
    refine o_nil (sq_n (w_seq (w_seq (w_region (?_)))))
    refine o_ev (ev_move rfl) rfl ?_
    refine o_ev (ev_neq_nil_val rfl) rfl ?_
    refine o_nil (sq_n (?_))
    refine w_if_true rfl (w_seq (?_))
    refine w_still Tryz_mixed ?_
    refine an_first 0 rfl rfl (by kernel_rfl) rfl (qv_at (ev_load rfl)) ?_
    refine an_first 1 rfl rfl (by kernel_rfl) rfl (qv_at (ev_assign rfl)) ?_
    refine an_first 2 rfl rfl (by kernel_rfl) rfl (qv_at (ev_assign rfl)) ?_
    refine an_nil (by kernel_rfl) (fun _ _ => rfl) (sq_n (w_ret (sq_r (?_))))
    refine res_intro (vs := [_, _]) Tryz.results11 (.inr rfl) (.cons (.tmp rfl) (.cons (.tmp rfl) (.nil))) ?_
    exact ⟨_, by (repeat (first | exact Ka | refine Kb ?_ | refine Kc ?_ | refine Kf ?_ | refine Kd ?_ | refine Ke ?_ | refine Kh ?_ | refine Kg rfl ?_ | refine Ki ?_ | refine Kj ?_ | refine Kk ?_ | refine Kl ?_ | refine Km ?_ | refine Kn ?_ | refine Ko ?_)), .inl ⟨0, by rw [packE, if_pos hc], rfl, rfl⟩⟩
  · skip
    have hes := encS_len hc
    refine o_ev (ev_move rfl) rfl ?_
    refine o_ev (ev_extract1 rfl rfl) rfl ?_
    refine o_ev (ev_extract1 rfl rfl) rfl ?_
    refine o_ev (ev_assign rfl) rfl ?_
    refine o_ev (ev_assign rfl) rfl ?_
    refine o_nil (sq_n (w_seq (w_seq (w_region (?_)))))
    refine o_ev (ev_move rfl) rfl ?_
    refine o_ev (ev_neq_nil_nil rfl) rfl ?_
    refine o_nil (sq_n (?_))
    refine w_if_false rfl (w_skip (sq_n (w_seq (w_seq (w_region (?_))))))
    refine o_ev (ev_fieldAddr rfl) rfl ?_
    refine o_ev (ev_load rfl) rfl ?_
    refine o_ev (ev_lss rfl rfl) rfl ?_
    refine o_split (ev_move rfl) rfl (fun h1 => ?_) (fun h1 => ?_)
    · skip
      try simp only [Za, Zb, Zc, Zd, Ze, Zf, Zg, Zh] at h1
      refine o_off rfl rfl rfl ?_
      refine o_off rfl rfl rfl ?_
      refine o_off rfl rfl rfl ?_
      refine o_ev (ev_pick_t rfl rfl) rfl ?_
      refine o_nil (sq_n (?_))
      refine w_if_true rfl (w_seq (?_))
      refine w_still Tryz_mixed ?_
      refine an_first 0 rfl rfl (by kernel_rfl) rfl (qv_at (ev_load rfl)) ?_
      refine an_first 1 rfl rfl (by kernel_rfl) rfl (qv_at (ev_assign rfl)) ?_
      refine an_first 2 rfl rfl (by kernel_rfl) rfl (qv_at (ev_assign rfl)) ?_
      refine an_nil (by kernel_rfl) (fun _ _ => rfl) (sq_n (w_ret (sq_r (?_))))
      refine res_intro (vs := [_, _]) Tryz.results11 (.inr rfl) (.cons (.tmp rfl) (.cons (.tmp rfl) (.nil))) ?_
      exact ⟨_, by (repeat (first | exact Ka | refine Kb ?_ | refine Kc ?_ | refine Kf ?_ | refine Kd ?_ | refine Ke ?_ | refine Kh ?_ | refine Kg rfl ?_ | refine Ki ?_ | refine Kj ?_ | refine Kk ?_ | refine Kl ?_ | refine Km ?_ | refine Kn ?_ | refine Ko ?_)), .inl ⟨1, by rw [packE, if_neg (by rw [hc]; simp), if_pos (by omega)], rfl, rfl⟩⟩
    · skip
      try simp only [Za, Zb, Zc, Zd, Ze, Zf, Zg, Zh] at h1
      refine o_on_ev rfl rfl rfl (ev_fieldAddr rfl) ?_
      refine o_on_ev rfl rfl rfl (ev_load rfl) ?_
      refine o_on_ev rfl rfl rfl (ev_gtr rfl rfl) ?_
      refine o_ev (ev_pick_f rfl rfl) rfl ?_
      refine o_nil (sq_n (?_))
      refine w_if rfl (fun h2 => ?_) (fun h2 => ?_)
      · skip
        try simp only [Za, Zb, Zc, Zd, Ze, Zf, Zg, Zh] at h2
        refine w_seq (?_)
        refine w_still Tryz_mixed ?_
        refine an_first 0 rfl rfl (by kernel_rfl) rfl (qv_at (ev_load rfl)) ?_
        refine an_first 1 rfl rfl (by kernel_rfl) rfl (qv_at (ev_assign rfl)) ?_
        refine an_first 2 rfl rfl (by kernel_rfl) rfl (qv_at (ev_assign rfl)) ?_
        refine an_nil (by kernel_rfl) (fun _ _ => rfl) (sq_n (w_ret (sq_r (?_))))
        refine res_intro (vs := [_, _]) Tryz.results11 (.inr rfl) (.cons (.tmp rfl) (.cons (.tmp rfl) (.nil))) ?_
        exact ⟨_, by (repeat (first | exact Ka | refine Kb ?_ | refine Kc ?_ | refine Kf ?_ | refine Kd ?_ | refine Ke ?_ | refine Kh ?_ | refine Kg rfl ?_ | refine Ki ?_ | refine Kj ?_ | refine Kk ?_ | refine Kl ?_ | refine Km ?_ | refine Kn ?_ | refine Ko ?_)), .inl ⟨1, by rw [packE, if_neg (by rw [hc]; simp), if_pos (by omega)], rfl, rfl⟩⟩
      · skip
        try simp only [Za, Zb, Zc, Zd, Ze, Zf, Zg, Zh] at h2
        refine w_skip (sq_n (w_seq (w_region (?_))))
        refine o_st (st_call (vs := []) rfl (newWriter)) rfl ?_
        rintro _ _ ⟨bw, rfl, rfl⟩
        refine o_ev (ev_assign rfl) rfl ?_
        refine o_nil (sq_n (w_seq (w_region (?_))))
        have e0 : packE fs next ps = match packPs ps with
          | .error e => .error e
          | .ok bl => .ok (imgP 73 ((1, encS fs) :: (2, uv next.toNat) :: bl)) := by
          rw [packE, if_neg (by rw [hc]; simp), if_neg (by omega)]
          rfl
        have hun := uv_len10 (n := next.toNat) (by omega)
        refine o_ev (ev_move rfl) rfl ?_
        refine o_ev (ev_fieldAddr rfl) rfl ?_
        refine o_ev (ev_load rfl) rfl ?_
        refine o_ev (ev_convL 18446744073709551616 rfl rfl rfl next.toNat (by omega) (by omega)) rfl ?_
        refine o_st (st_call (vs := [_, _]) rfl (wUvarint next.toNat (by omega) (by simp))) rfl ?_
        rintro _ _ ⟨rfl, rfl⟩
        refine o_nil (sq_n (w_seq (w_region (?_))))
        rw [List.nil_append]
        refine o_ev (ev_move rfl) rfl ?_
        refine o_ev (ev_build (vs := [(0, _), (1, _)]) rfl) rfl ?_
        refine o_ev (ev_move rfl) rfl ?_
        refine o_st (st_call (vs := [_]) rfl (wBytes (by omega))) rfl ?_
        rintro _ _ ⟨s2, rfl, rfl⟩
        refine o_ev (ev_build (vs := [(0, _), (1, _)]) rfl) rfl ?_
        refine o_st (st_build2 eK rfl rfl rfl) rfl ?_
        rintro _ _ ⟨s3, rfl, rfl⟩
        refine o_ev (ev_assign rfl) rfl ?_
        refine o_nil (sq_n (w_seq (w_seq (w_region (?_)))))
        refine o_ev (ev_fieldAddr rfl) rfl ?_
        refine o_ev (ev_load rfl) rfl ?_
        refine o_ev (ev_len1 rfl) rfl ?_
        refine o_ev (ev_move rfl) rfl ?_
        refine o_nil (sq_n (w_block (?_)))
        refine w_loop (SV × Nat × List (Nat × SV) × List (Nat × List Nat) × Heap) (fun y => y.2.1 ≤ ps.length ∧ BodsIn y.2.2.2.2 H y.2.2.1 ((1, encS fs) :: (2, uv next.toNat) :: y.2.2.2.1) ∧ y.2.2.1.length = 2 * y.2.1 + 2 ∧ packPs ps = glueE y.2.2.2.1 (packPs (ps.drop y.2.1))) (fun y => [(7, y.1.val), (43, sp.val), (44, .int .i64 ((ps.length : Nat) : Int)), (45, .int .i64 ((y.2.1 : Nat) : Int))]) (fun y => Row y.1 eK y.2.2.1 :: Star y.2.2.2.2 :: H) (fun y => ps.length - y.2.1) ((s3, 0, [(1, s1), (2, s2)], [], [Row s2 eB (uv next.toNat), Row s1 eB (encS fs)])) ?_ ?_ ?_ ?_
        · (try dsimp only)
          refine ⟨Nat.zero_le _, ?_, rfl, ?_⟩
          · have h1 : BodsIn [Row s2 eB (uv next.toNat), Row s1 eB (encS fs)] H ([] ++ [(1, s1)]) ([] ++ [(1, encS fs)]) := (BodsIn.nil (F := [Row s2 eB (uv next.toNat), Row s1 eB (encS fs)])).snoc 1 s1 _ (fun _ _ h => h) (.inl inferInstance)
            exact h1.snoc 2 s2 _ (fun _ _ h => h) (.inl inferInstance)
          · rw [List.drop_zero]
            cases packPs ps with
            | ok r => rfl
            | error e => rfl
        · rw [hlen]
          repeat (first | exact Sub.nil | refine Sub.cons rfl ?_)
        · (try dsimp only)
          refine Kc (HSub.starPut (HSub.starPut (Kk ?_)))
          (repeat (first | exact Ka | refine Kb ?_ | refine Kc ?_ | refine Kf ?_ | refine Kd ?_ | refine Ke ?_ | refine Kh ?_ | refine Kg rfl ?_ | refine Ki ?_ | refine Kj ?_ | refine Kk ?_ | refine Kl ?_ | refine Km ?_ | refine Kn ?_ | refine Ko ?_))
        · rintro ⟨s, i, l, bl, F⟩ ⟨hi, hB, hl, hI⟩
          (try dsimp only at *)
          refine w_seq (w_region (?_))
          refine o_ev (ev_lss rfl rfl) rfl ?_
          refine o_nil (sq_n (w_seq (?_)))
          refine w_if rfl (fun h3 => ?_) (fun h3 => ?_)
          · skip
            try simp only [Za, Zb, Zc, Zd, Ze, Zf, Zg, Zh] at h3
            obtain ⟨p, hp⟩ : ∃ p, lp[i]? = some p := ⟨_, List.getElem?_eq_getElem (by omega)⟩
            obtain ⟨q, hq⟩ : ∃ q, ps[i]? = some q := ⟨_, List.getElem?_eq_getElem (by omega)⟩
            obtain ⟨hS1, hS2⟩ := hin i p q hp hq
            obtain ⟨k1, k2, k3, k4⟩ := hk q (List.mem_of_getElem? hq)
            rw [drop_get hq, packPs] at hI
            refine w_skip (sq_n (w_seq (w_block (w_seq (w_region (?_))))))
            refine o_ev (ev_indexAddr rfl rfl _ rfl (by omega)) rfl ?_
            refine o_ev (ev_loadS_el rfl (by rfl) (by rfl) _ (by first | assumption | rfl | exact List.getElem?_eq_getElem (by omega))) rfl ?_
            refine o_st (st_alloc) rfl ?_
            rintro _ _ ⟨b2, rfl, rfl⟩
            refine o_st (st_store rfl rfl rfl) rfl ?_
            rintro _ _ ⟨rfl, rfl⟩
            refine o_nil (sq_n (w_seq (w_region (?_))))
            refine o_ev (ev_fieldAddr rfl) rfl ?_
            refine o_ev (ev_load rfl) rfl ?_
            refine o_st (st_call (vs := [_]) rfl (packDead (l := q.2) (by omega) k3)) rfl ?_
            rintro v1 H1 hK
            rcases hK with ⟨hb, rfl, rfl⟩ | ⟨hb, hr, rfl, rfl⟩ | ⟨hb, hr, s4, rfl, rfl⟩
            · skip
              rw [if_pos hb] at hI
              refine o_ev (ev_move rfl) rfl ?_
              refine o_ev (ev_extract1 rfl rfl) rfl ?_
              refine o_ev (ev_extract1 rfl rfl) rfl ?_
              refine o_ev (ev_assign rfl) rfl ?_
              refine o_ev (ev_assign rfl) rfl ?_
              refine o_nil (sq_n (w_seq (w_seq (w_region (?_)))))
              refine o_ev (ev_move rfl) rfl ?_
              refine o_ev (ev_neq_nil_val rfl) rfl ?_
              refine o_nil (sq_n (?_))
              refine w_if_true rfl (w_seq (w_region (?_)))
              refine o_ev (ev_move rfl) rfl ?_
              refine o_ev (ev_assign rfl) rfl ?_
              refine o_ev (ev_assign rfl) rfl ?_
              refine o_nil (sq_n (w_ret (sq_r (bk_r (sq_r (lq_r (bk_r (sq_r (?_)))))))))
              refine res_intro (vs := [_, _]) Tryz.results11 (.inr rfl) (.cons (.tmp rfl) (.cons (.tmp rfl) (.nil))) ?_
              exact ⟨_, by (repeat (first | exact Ka | refine Kb ?_ | refine Kc ?_ | refine Kf ?_ | refine Kd ?_ | refine Ke ?_ | refine Kh ?_ | refine Kg rfl ?_ | refine Ki ?_ | refine Kj ?_ | refine Kk ?_ | refine Kl ?_ | refine Km ?_ | refine Kn ?_ | refine Ko ?_)), .inl ⟨_, by rw [e0, hI]; rfl, rfl, rfl⟩⟩
            · skip
              rw [if_neg (by rw [hb]; simp), if_pos hr] at hI
              refine o_ev (ev_move rfl) rfl ?_
              refine o_ev (ev_extract1 rfl rfl) rfl ?_
              refine o_ev (ev_extract1 rfl rfl) rfl ?_
              refine o_ev (ev_assign rfl) rfl ?_
              refine o_ev (ev_assign rfl) rfl ?_
              refine o_nil (sq_n (w_seq (w_seq (w_region (?_)))))
              refine o_ev (ev_move rfl) rfl ?_
              refine o_ev (ev_neq_nil_val rfl) rfl ?_
              refine o_nil (sq_n (?_))
              refine w_if_true rfl (w_seq (w_region (?_)))
              refine o_ev (ev_move rfl) rfl ?_
              refine o_ev (ev_assign rfl) rfl ?_
              refine o_ev (ev_assign rfl) rfl ?_
              refine o_nil (sq_n (w_ret (sq_r (bk_r (sq_r (lq_r (bk_r (sq_r (?_)))))))))
              refine res_intro (vs := [_, _]) Tryz.results11 (.inr rfl) (.cons (.tmp rfl) (.cons (.tmp rfl) (.nil))) ?_
              exact ⟨_, by (repeat (first | exact Ka | refine Kb ?_ | refine Kc ?_ | refine Kf ?_ | refine Kd ?_ | refine Ke ?_ | refine Kh ?_ | refine Kg rfl ?_ | refine Ki ?_ | refine Kj ?_ | refine Kk ?_ | refine Kl ?_ | refine Km ?_ | refine Kn ?_ | refine Ko ?_)), .inl ⟨_, by rw [e0, hI]; rfl, rfl, rfl⟩⟩
            · skip
              rw [if_neg (by rw [hb]; simp), if_neg (by rw [hr]; simp)] at hI
              refine o_ev (ev_move rfl) rfl ?_
              refine o_ev (ev_extract1 rfl rfl) rfl ?_
              refine o_ev (ev_extract1 rfl rfl) rfl ?_
              refine o_ev (ev_assign rfl) rfl ?_
              refine o_ev (ev_assign rfl) rfl ?_
              refine o_nil (sq_n (w_seq (w_seq (w_region (?_)))))
              refine o_ev (ev_move rfl) rfl ?_
              refine o_ev (ev_neq_nil_nil rfl) rfl ?_
              refine o_nil (sq_n (?_))
              refine w_if_false rfl (w_skip (sq_n (w_region (?_))))
              refine o_ev (ev_move rfl) rfl ?_
              refine o_ev (ev_fieldAddr rfl) rfl ?_
              refine o_ev (ev_load rfl) rfl ?_
              refine o_ev (ev_build (vs := [(0, _), (1, _)]) rfl) rfl ?_
              refine o_ev (ev_move rfl) rfl ?_
              refine o_ev (ev_build (vs := [(0, _), (1, _)]) rfl) rfl ?_
              refine o_st (st_build2 eK rfl rfl rfl) rfl ?_
              rintro _ _ ⟨s5, rfl, rfl⟩
              refine o_st (st_append rfl rfl rfl rfl (by simp only [List.length_cons, List.length_nil]; omega) (by simp only [List.length_cons, List.length_nil]; omega)) rfl ?_
              rintro _ _ ⟨s6, rfl, rfl⟩
              refine o_ev (ev_assign rfl) rfl ?_
              refine o_nil (bk_n (sq_n (w_region (?_))))
              refine o_ev (ev_add rfl rfl (by omega)) rfl ?_
              refine o_ev (ev_move rfl) rfl ?_
              refine o_nil (?_)
              skip
              refine lq_n ((s6, i + 1, l ++ [(3, p.1), (4, s4)], bl ++ [(3, q.1), (4, uv q.2.length ++ riseB (-1) q.2)], Row s4 eB (uv q.2.length ++ riseB (-1) q.2) :: F)) ?_ ?_ ?_ ?_
              · (try dsimp only)
                refine ⟨by omega, ?_, by simp only [List.length_append, List.length_cons, List.length_nil]; omega, ?_⟩
                · have h1 := (hB.snoc (F' := Row s4 eB (uv q.2.length ++ riseB (-1) q.2) :: F) 3 p.1 q.1 (fun _ _ h => inferInstance) (.inr hS1)).snoc (F' := Row s4 eB (uv q.2.length ++ riseB (-1) q.2) :: F) 4 s4 (uv q.2.length ++ riseB (-1) q.2) (fun _ _ h => h) (.inl inferInstance)
                  simpa using h1
                · rw [hI]
                  cases packPs (ps.drop (i + 1)) with
                  | ok r => simp [glueE]
                  | error e => rfl
              · (try dsimp only)
                omega
              · repeat (first | exact Sub.nil | refine Sub.cons rfl ?_)
              · (try dsimp only)
                (repeat (first | exact Ka | refine Kb ?_ | refine Kc ?_ | refine Kf ?_ | refine Kd ?_ | refine Ke ?_ | refine Kh ?_ | refine Kg rfl ?_ | refine Ki ?_ | refine Kj ?_ | refine Kk ?_ | refine Kl ?_ | refine Km ?_ | refine Kn ?_ | refine Ko ?_))
          · skip
            try simp only [Za, Zb, Zc, Zd, Ze, Zf, Zg, Zh] at h3
            obtain rfl : i = ps.length := by omega
            rw [List.drop_of_length_le (Nat.le_refl _), packPs] at hI
            have hI' : packPs ps = .ok bl := by rw [hI]; simp [glueE]
            obtain ⟨m1, m2⟩ := packPs_len ps bl hk hI'
            obtain ⟨n1, n2, n3⟩ := packPs_ok ps bl hk hI'
            have hall : ∀ q ∈ (1, encS fs) :: (2, uv next.toNat) :: bl, 0 < q.1 ∧ q.1 < 256 ∧ ∀ x ∈ q.2, x < 256 := by
              intro q hq
              rcases List.mem_cons.1 hq with rfl | hq
              · exact ⟨by simp, by simp, encS_lt hc⟩
              · rcases List.mem_cons.1 hq with rfl | hq
                · exact ⟨by simp, by simp, uv_lt _⟩
                · exact ⟨(n3 q hq).1, (n3 q hq).2.1, (n3 q hq).2.2.1⟩
            have hel : (encAll ((1, encS fs) :: (2, uv next.toNat) :: bl)).length ≤ 1000000000 := by
              have hu1 := uv_len10 (n := (encS fs).length) (by omega)
              have hu2 := uv_len10 (n := (uv next.toNat).length) (by omega)
              rw [show encAll ((1, encS fs) :: (2, uv next.toNat) :: bl) = encB 1 (encS fs) ++ (encB 2 (uv next.toNat) ++ encAll bl) by simp [encAll], List.length_append, List.length_append, encB_len, encB_len]
              omega
            refine w_exit (sq_e (lq_e (bk_h (sq_n (w_seq (w_region (?_)))))))
            refine o_ev (ev_move rfl) rfl ?_
            refine o_st (st_call (vs := [_, _]) rfl (fPack (bl := (1, encS fs) :: (2, uv next.toNat) :: bl) 73 (by decide) (by decide) hB.bods hall hel (by simp only [List.length_cons]; omega))) rfl ?_
            rintro _ _ ⟨s5, rfl, rfl⟩
            refine o_ev (ev_extract1 rfl rfl) rfl ?_
            refine o_ev (ev_extract1 rfl rfl) rfl ?_
            refine o_ev (ev_assign rfl) rfl ?_
            refine o_ev (ev_assign rfl) rfl ?_
            refine o_nil (sq_n (w_ret (?_)))
            refine res_intro (vs := [_, _]) Tryz.results11 (.inr rfl) (.cons (.tmp rfl) (.cons (.tmp rfl) (.nil))) ?_
            exact ⟨_, by (repeat (first | exact Ka | refine Kb ?_ | refine Kc ?_ | refine Kf ?_ | refine Kd ?_ | refine Ke ?_ | refine Kh ?_ | refine Kg rfl ?_ | refine Ki ?_ | refine Kj ?_ | refine Kk ?_ | refine Kl ?_ | refine Km ?_ | refine Kn ?_ | refine Ko ?_)), .inr ⟨_, s5, by rw [e0, hI'], rfl, rfl⟩⟩
end Go.Sx
