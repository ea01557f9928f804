import Derived.Test.YtcbidldebfibkaaGreatDoorW17
set_option linter.unusedVariables false
set_option linter.unusedSimpArgs false
set_option linter.unusedSectionVars false
set_option linter.unnecessarySimpa false
namespace Go.Sx
open Go Go.Proofs
set_option maxRecDepth 100000
set_option linter.unusedSimpArgs false
set_option linter.unusedVariables false

def nm (f : FV) : List Nat := byts f.name
theorem sCheck {G : Base} {H : Heap} {s : SV} {fs : List FV} [hg : Glb G H] [hs : Sl H s eF fs] (hn : fs.length ≤ 1000000000) (hf : ∀ f ∈ fs, f.name.size ≤ 1000000000000) : SC G Tryz.prog 71 [.agg [s.val].toArray] H (fun v H' => H' = H ∧ ((chkS fs = false ∧ v = G.err 0) ∨ (chkS fs = true ∧ v = .nilIface))) := by
  refine SC.out (sc_walk Tryz.func71 rfl Tryz.ntmps71 (by kernel_rfl) (Nat.le_of_ble_eq_true rfl) ?_)
  refine w_seq (w_region (?_))
  refine o_st (st_box rfl) rfl ?_
  rintro _ _ ⟨b1, rfl, rfl⟩
  refine o_ev (ev_assign rfl) rfl ?_
  refine o_nil (sq_n (w_seq (w_seq (w_region (?_)))))
  refine o_ev (ev_fieldAddr rfl) rfl ?_
  refine o_ev (ev_load rfl) rfl ?_
  refine o_ev (ev_len1 rfl) rfl ?_
  refine o_ev (ev_lss rfl rfl) rfl ?_
  refine o_split (ev_move rfl) rfl (fun h1 => ?_) (fun h1 => ?_)
  · skip
    try simp only [Za, Zb, Zc, Zd, Ze, Zf, Zg, Zh] at h1
    refine o_off rfl rfl rfl ?_
    refine o_off rfl rfl rfl ?_
    refine o_off rfl rfl rfl ?_
    refine o_off rfl rfl rfl ?_
    refine o_ev (ev_pick_t rfl rfl) rfl ?_
    refine o_nil (sq_n (?_))
    refine w_if_true rfl (w_seq (w_region (?_)))
    refine o_ev (ev_load rfl) rfl ?_
    refine o_ev (ev_assign rfl) rfl ?_
    refine o_nil (sq_n (w_ret (sq_r (?_))))
    refine res_intro (vs := [_]) Tryz.results71 (.inr rfl) (.cons (.tmp rfl) (.nil)) ?_
    have e : chkS fs = false := by unfold chkS; rw [decide_eq_false (by omega)]; rfl
    exact ⟨_, by (repeat (first | exact Ka | refine Kb ?_ | refine Kc ?_ | refine Kf ?_ | refine Kd ?_ | refine Ke ?_ | refine Kh ?_ | refine Kg rfl ?_ | refine Ki ?_ | refine Kj ?_ | refine Kk ?_ | refine Kl ?_ | refine Km ?_ | refine Kn ?_ | refine Ko ?_)), rfl, .inl ⟨e, rfl⟩⟩
  · skip
    try simp only [Za, Zb, Zc, Zd, Ze, Zf, Zg, Zh] at h1
    refine o_on_ev rfl rfl rfl (ev_fieldAddr rfl) ?_
    refine o_on_ev rfl rfl rfl (ev_load rfl) ?_
    refine o_on_ev rfl rfl rfl (ev_len1 rfl) ?_
    refine o_on_ev rfl rfl rfl (ev_gtr rfl rfl) ?_
    refine o_ev (ev_pick_f rfl rfl) rfl ?_
    refine o_nil (sq_n (?_))
    refine w_if rfl (fun h2 => ?_) (fun h2 => ?_)
    · skip
      try simp only [Za, Zb, Zc, Zd, Ze, Zf, Zg, Zh] at h2
      refine w_seq (w_region (?_))
      refine o_ev (ev_load rfl) rfl ?_
      refine o_ev (ev_assign rfl) rfl ?_
      refine o_nil (sq_n (w_ret (sq_r (?_))))
      refine res_intro (vs := [_]) Tryz.results71 (.inr rfl) (.cons (.tmp rfl) (.nil)) ?_
      have e : chkS fs = false := by unfold chkS; rw [decide_eq_false (by omega)]; rfl
      exact ⟨_, by (repeat (first | exact Ka | refine Kb ?_ | refine Kc ?_ | refine Kf ?_ | refine Kd ?_ | refine Ke ?_ | refine Kh ?_ | refine Kg rfl ?_ | refine Ki ?_ | refine Kj ?_ | refine Kk ?_ | refine Kl ?_ | refine Km ?_ | refine Kn ?_ | refine Ko ?_)), rfl, .inl ⟨e, rfl⟩⟩
    · skip
      try simp only [Za, Zb, Zc, Zd, Ze, Zf, Zg, Zh] at h2
      refine w_skip (sq_n (w_seq (w_region (?_))))
      have e : chkS fs = chkL [] fs := by unfold chkS; rw [decide_eq_true (by omega)]; rfl
      refine o_ev (ev_fieldAddr rfl) rfl ?_
      refine o_ev (ev_load rfl) rfl ?_
      refine o_ev (ev_len1 rfl) rfl ?_
      refine o_st (st_makeMap rfl) rfl ?_
      rintro _ _ ⟨m1, rfl, rfl⟩
      refine o_ev (ev_assign rfl) rfl ?_
      refine o_nil (sq_n (w_seq (w_seq (w_region (?_)))))
      refine o_ev (ev_fieldAddr rfl) rfl ?_
      refine o_ev (ev_load rfl) rfl ?_
      refine o_ev (ev_len1 rfl) rfl ?_
      refine o_ev (ev_move rfl) rfl ?_
      refine o_nil (sq_n (w_block (?_)))
      refine w_loop (Nat × List (List Nat)) (fun y => y.1 ≤ fs.length ∧ chkS fs = chkL y.2 (fs.drop y.1)) (fun y => [(1, .pointer (some ⟨b1, 0, none⟩)), (3, .map (some m1)), (24, s.val), (25, .int .i64 ((fs.length : Nat) : Int)), (26, .int .i64 ((y.1 : Nat) : Int))]) (fun y => Mp m1 y.2 :: H) (fun y => fs.length - y.1) ((0, [])) ?_ ?_ ?_ ?_
      · (try dsimp only)
        exact ⟨Nat.zero_le _, by rw [e, List.drop_zero]⟩
      · repeat (first | exact Sub.nil | refine Sub.cons rfl ?_)
      · (try dsimp only)
        (repeat (first | exact Ka | refine Kb ?_ | refine Kc ?_ | refine Kf ?_ | refine Kd ?_ | refine Ke ?_ | refine Kh ?_ | refine Kg rfl ?_ | refine Ki ?_ | refine Kj ?_ | refine Kk ?_ | refine Kl ?_ | refine Km ?_ | refine Kn ?_ | refine Ko ?_))
      · rintro ⟨i, seen⟩ ⟨hi, hI⟩
        (try dsimp only at *)
        refine w_seq (w_region (?_))
        refine o_ev (ev_lss rfl rfl) rfl ?_
        refine o_nil (sq_n (w_seq (?_)))
        refine w_if rfl (fun h3 => ?_) (fun h3 => ?_)
        · skip
          try simp only [Za, Zb, Zc, Zd, Ze, Zf, Zg, Zh] at h3
          obtain ⟨f, hfi⟩ : ∃ f, fs[i]? = some f := ⟨_, List.getElem?_eq_getElem (by omega)⟩
          have hfn := hf f (List.mem_of_getElem? hfi)
          rw [drop_get hfi, chkL] at hI
          refine w_skip (sq_n (w_seq (w_block (w_seq (w_region (?_))))))
          refine o_ev (ev_move rfl) rfl ?_
          refine o_ev (ev_indexAddr rfl rfl _ rfl (by omega)) rfl ?_
          refine o_ev (ev_loadS_el rfl (by rfl) (by rfl) _ (by first | assumption | rfl | exact List.getElem?_eq_getElem (by omega))) rfl ?_
          refine o_st (st_alloc) rfl ?_
          rintro _ _ ⟨b2, rfl, rfl⟩
          refine o_ev (ev_assign rfl) rfl ?_
          refine o_st (st_store rfl rfl rfl) rfl ?_
          rintro _ _ ⟨rfl, rfl⟩
          refine o_nil (sq_n (w_seq (w_seq (w_region (?_)))))
          refine o_ev (ev_move rfl) rfl ?_
          refine o_ev (ev_fieldAddr rfl) rfl ?_
          refine o_ev (ev_load rfl) rfl ?_
          refine o_st (st_lookup rfl rfl) rfl ?_
          rintro _ _ ⟨⟨lv1, rfl⟩, rfl⟩
          refine o_ev (ev_move rfl) rfl ?_
          refine o_ev (ev_extract1 rfl rfl) rfl ?_
          refine o_ev (ev_extract1 rfl rfl) rfl ?_
          refine o_ev (ev_assign rfl) rfl ?_
          refine o_ev (ev_assign rfl) rfl ?_
          refine o_nil (sq_n (w_seq (w_region (?_))))
          refine o_ev (ev_move rfl) rfl ?_
          refine o_split (ev_move rfl) rfl (fun h4 => ?_) (fun h4 => ?_)
          · skip
            try simp only [Za, Zb, Zc, Zd, Ze, Zf, Zg, Zh] at h4
            refine o_off rfl rfl rfl ?_
            refine o_off rfl rfl rfl ?_
            refine o_off rfl rfl rfl ?_
            refine o_off rfl rfl rfl ?_
            refine o_ev (ev_pick_t rfl rfl) rfl ?_
            refine o_ev (ev_move rfl) rfl ?_
            refine o_off rfl rfl rfl ?_
            refine o_off rfl rfl rfl ?_
            refine o_off rfl rfl rfl ?_
            refine o_ev (ev_pick_t rfl rfl) rfl ?_
            refine o_nil (sq_n (?_))
            refine w_if_true rfl (w_seq (w_region (?_)))
            refine o_ev (ev_load rfl) rfl ?_
            refine o_ev (ev_assign rfl) rfl ?_
            refine o_nil (sq_n (w_ret (sq_r (bk_r (sq_r (lq_r (bk_r (sq_r (?_)))))))))
            refine res_intro (vs := [_]) Tryz.results71 (.inr rfl) (.cons (.tmp rfl) (.nil)) ?_
            refine ⟨_, by (repeat (first | exact Ka | refine Kb ?_ | refine Kc ?_ | refine Kf ?_ | refine Kd ?_ | refine Ke ?_ | refine Kh ?_ | refine Kg rfl ?_ | refine Ki ?_ | refine Kj ?_ | refine Kk ?_ | refine Kl ?_ | refine Km ?_ | refine Kn ?_ | refine Ko ?_)), rfl, .inl ⟨?_, rfl⟩⟩
            rw [hI]; simp_all
          · skip
            try simp only [Za, Zb, Zc, Zd, Ze, Zf, Zg, Zh] at h4
            refine o_on_ev rfl rfl rfl (ev_fieldAddr rfl) ?_
            refine o_on_ev rfl rfl rfl (ev_load rfl) ?_
            refine o_on rfl rfl rfl (st_call (vs := [_]) rfl (goodName f.name hfn)) ?_
            rintro _ _ ⟨rfl, rfl⟩
            refine o_on_ev rfl rfl rfl (ev_not rfl) ?_
            refine o_ev (ev_pick_f rfl rfl) rfl ?_
            refine o_split (ev_move rfl) rfl (fun h5 => ?_) (fun h5 => ?_)
            · skip
              try simp only [Za, Zb, Zc, Zd, Ze, Zf, Zg, Zh] at h5
              refine o_off rfl rfl rfl ?_
              refine o_off rfl rfl rfl ?_
              refine o_off rfl rfl rfl ?_
              refine o_ev (ev_pick_t rfl rfl) rfl ?_
              refine o_nil (sq_n (?_))
              refine w_if_true rfl (w_seq (w_region (?_)))
              refine o_ev (ev_load rfl) rfl ?_
              refine o_ev (ev_assign rfl) rfl ?_
              refine o_nil (sq_n (w_ret (sq_r (bk_r (sq_r (lq_r (bk_r (sq_r (?_)))))))))
              refine res_intro (vs := [_]) Tryz.results71 (.inr rfl) (.cons (.tmp rfl) (.nil)) ?_
              refine ⟨_, by (repeat (first | exact Ka | refine Kb ?_ | refine Kc ?_ | refine Kf ?_ | refine Kd ?_ | refine Ke ?_ | refine Kh ?_ | refine Kg rfl ?_ | refine Ki ?_ | refine Kj ?_ | refine Kk ?_ | refine Kl ?_ | refine Km ?_ | refine Kn ?_ | refine Ko ?_)), rfl, .inl ⟨?_, rfl⟩⟩
              rw [hI]; simp_all
            · skip
              try simp only [Za, Zb, Zc, Zd, Ze, Zf, Zg, Zh] at h5
              refine o_on_ev rfl rfl rfl (ev_loadS rfl) ?_
              refine o_on rfl rfl rfl (st_call (vs := [_]) rfl (goodKind f)) ?_
              rintro _ _ ⟨rfl, rfl⟩
              refine o_on_ev rfl rfl rfl (ev_not rfl) ?_
              refine o_ev (ev_pick_f rfl rfl) rfl ?_
              refine o_nil (sq_n (?_))
              refine w_if rfl (fun h6 => ?_) (fun h6 => ?_)
              · skip
                try simp only [Za, Zb, Zc, Zd, Ze, Zf, Zg, Zh] at h6
                refine w_seq (w_region (?_))
                refine o_ev (ev_load rfl) rfl ?_
                refine o_ev (ev_assign rfl) rfl ?_
                refine o_nil (sq_n (w_ret (sq_r (bk_r (sq_r (lq_r (bk_r (sq_r (?_)))))))))
                refine res_intro (vs := [_]) Tryz.results71 (.inr rfl) (.cons (.tmp rfl) (.nil)) ?_
                refine ⟨_, by (repeat (first | exact Ka | refine Kb ?_ | refine Kc ?_ | refine Kf ?_ | refine Kd ?_ | refine Ke ?_ | refine Kh ?_ | refine Kg rfl ?_ | refine Ki ?_ | refine Kj ?_ | refine Kk ?_ | refine Kl ?_ | refine Km ?_ | refine Kn ?_ | refine Ko ?_)), rfl, .inl ⟨?_, rfl⟩⟩
                rw [hI]; simp_all
              · skip
                try simp only [Za, Zb, Zc, Zd, Ze, Zf, Zg, Zh] at h6
                refine w_skip (sq_n (w_region (?_)))
                refine o_ev (ev_move rfl) rfl ?_
                refine o_ev (ev_fieldAddr rfl) rfl ?_
                refine o_ev (ev_load rfl) rfl ?_
                refine o_ev (ev_move rfl) rfl ?_
                refine o_st (st_mapUpdate rfl rfl rfl (by assumption)) rfl ?_
                rintro _ _ ⟨rfl, rfl⟩
                refine o_nil (bk_n (sq_n (w_region (?_))))
                refine o_ev (ev_add rfl rfl (by omega)) rfl ?_
                refine o_ev (ev_move rfl) rfl ?_
                refine o_nil (?_)
                skip
                refine lq_n ((i + 1, seen ++ [byts f.name])) ?_ ?_ ?_ ?_
                · (try dsimp only)
                  refine ⟨by omega, ?_⟩
                  rw [hI]; simp_all
                · (try dsimp only)
                  omega
                · repeat (first | exact Sub.nil | refine Sub.cons rfl ?_)
                · (try dsimp only)
                  (repeat (first | exact Ka | refine Kb ?_ | refine Kc ?_ | refine Kf ?_ | refine Kd ?_ | refine Ke ?_ | refine Kh ?_ | refine Kg rfl ?_ | refine Ki ?_ | refine Kj ?_ | refine Kk ?_ | refine Kl ?_ | refine Km ?_ | refine Kn ?_ | refine Ko ?_))
        · skip
          try simp only [Za, Zb, Zc, Zd, Ze, Zf, Zg, Zh] at h3
          obtain rfl : i = fs.length := by omega
          rw [List.drop_of_length_le (Nat.le_refl _), chkL] at hI
          refine w_exit (sq_e (lq_e (bk_h (sq_n (w_seq (w_region (?_)))))))
          refine o_ev (ev_assign rfl) rfl ?_
          refine o_nil (sq_n (w_ret (?_)))
          refine res_intro (vs := [_]) Tryz.results71 (.inr rfl) (.cons (.tmp rfl) (.nil)) ?_
          exact ⟨_, by (repeat (first | exact Ka | refine Kb ?_ | refine Kc ?_ | refine Kf ?_ | refine Kd ?_ | refine Ke ?_ | refine Kh ?_ | refine Kg rfl ?_ | refine Ki ?_ | refine Kj ?_ | refine Kk ?_ | refine Kl ?_ | refine Km ?_ | refine Kn ?_ | refine Ko ?_)), rfl, .inr ⟨hI, rfl⟩⟩
end Go.Sx
namespace Go.Sx
open Go Go.Proofs
set_option maxRecDepth 100000
set_option linter.unusedSimpArgs false
set_option linter.unusedVariables false

/-- A field's byte. -/
def kB (f : FV) : Nat := f.kind.toNat + (if f.fold then 4 else 0) + (if f.stop then 8 else 0) + (if f.stem then 16 else 0)
def encF (f : FV) : List Nat := uv f.name.size ++ byts f.name ++ [kB f]
def encFs (fs : List FV) : List Nat := fs.flatMap encF
def encS (fs : List FV) : List Nat := uv fs.length ++ encFs fs
theorem encFs_snoc (l : List FV) (f : FV) : encFs (l ++ [f]) = encFs l ++ encF f := by simp [encFs]
theorem chkL_get : ∀ (fs : List FV) (seen : List (List Nat)), chkL seen fs = true → ∀ f ∈ fs, goodN (byts f.name) = true ∧ goodK f = true
  | [], _, _, f, h => by cases h
  | a :: r, seen, hc, f, h => by
    simp only [chkL, Bool.and_eq_true] at hc
    rcases List.mem_cons.1 h with rfl | h
    · exact ⟨hc.2.1, hc.2.2.1⟩
    · exact chkL_get r _ hc.2.2.2 f h
theorem goodN_len {l : List Nat} (h : goodN l = true) : 1 ≤ l.length ∧ l.length ≤ 32 := by
  simp only [goodN, Bool.and_eq_true, decide_eq_true_eq] at h; exact h.1
theorem goodK_kind {f : FV} (h : goodK f = true) : f.kind = 1 ∨ (f.kind = 2 ∨ f.kind = 3) ∧ f.fold = false ∧ f.stop = false ∧ f.stem = false := by
  unfold goodK at h
  split at h
  · exact .inl (by assumption)
  · split at h
    · simp only [Bool.and_eq_true, Bool.not_eq_true'] at h
      exact .inr ⟨by assumption, h.1.1, h.1.2, h.2⟩
    · cases h
theorem chkS_get {fs : List FV} (h : chkS fs = true) : (1 ≤ fs.length ∧ fs.length ≤ 16) ∧ ∀ f ∈ fs, f.name.size ≤ 32 ∧ 1 ≤ f.kind ∧ f.kind ≤ 3 := by
  simp only [chkS, Bool.and_eq_true, decide_eq_true_eq] at h
  refine ⟨h.1, fun f hf => ?_⟩
  obtain ⟨h1, h2⟩ := chkL_get fs [] h.2 f hf
  have h3 := goodN_len h1
  rw [byts_length] at h3
  rcases goodK_kind h2 with h4 | ⟨h4, _⟩ <;> omega
theorem or_aux : ∀ (k : Fin 4) (a b c : Bool), (let x := if a then k.val ||| 4 else k.val; let y := if b then x ||| 8 else x; if c then y ||| 16 else y) = k.val + (if a then 4 else 0) + (if b then 8 else 0) + (if c then 16 else 0) := by decide
theorem or_kB (f : FV) (h : f.kind.toNat ≤ 3) : (if f.stem then (if f.stop then (if f.fold then f.kind.toNat ||| 4 else f.kind.toNat) ||| 8 else (if f.fold then f.kind.toNat ||| 4 else f.kind.toNat)) ||| 16 else (if f.stop then (if f.fold then f.kind.toNat ||| 4 else f.kind.toNat) ||| 8 else (if f.fold then f.kind.toNat ||| 4 else f.kind.toNat))) = kB f :=
  or_aux ⟨f.kind.toNat, by omega⟩ f.fold f.stop f.stem

theorem sEncode {G : Base} {H : Heap} {s : SV} {fs : List FV} [hg : Glb G H] [hs : Sl H s eF fs] (hn : fs.length ≤ 1000000000) (hf : ∀ f ∈ fs, f.name.size ≤ 1000000000000) : SC G Tryz.prog 35 [.agg [s.val].toArray] H (fun v H' => (chkS fs = false ∧ v = .tuple #[.slice none 0 0, G.err 0] ∧ H' = H) ∨ (chkS fs = true ∧ ∃ s' : SV, v = .tuple #[s'.val, .nilIface] ∧ H' = Row s' eB (encS fs) :: H)) := by
  refine SC.out (sc_walk Tryz.func35 rfl Tryz.ntmps35 (by kernel_rfl) (Nat.le_of_ble_eq_true rfl) ?_)
  refine w_seq (w_region (?_))
  refine o_st (st_box rfl) rfl ?_
  rintro _ _ ⟨b1, rfl, rfl⟩
  refine o_ev (ev_assign rfl) rfl ?_
  refine o_ev (ev_assign rfl) rfl ?_
  refine o_nil (sq_n (w_seq (w_seq (w_region (?_)))))
  refine o_ev (ev_loadS rfl) rfl ?_
  refine o_st (st_call (vs := [_]) rfl (sCheck hn hf)) rfl ?_
  rintro v1 H1 hK
  rcases hK with ⟨rfl, ⟨hc, rfl⟩ | ⟨hc, rfl⟩⟩
  · skip
    refine o_ev (ev_assign rfl) rfl ?_
    refine o_nil (sq_n (w_seq (w_region (?_))))
    refine o_ev (ev_move rfl) rfl ?_
    refine o_ev (ev_neq_nil_val rfl) rfl ?_
    refine o_nil (sq_n (?_))
    refine w_if_true rfl (w_seq (w_region (?_)))
    refine o_ev (ev_move rfl) rfl ?_
    refine o_ev (ev_assign rfl) rfl ?_
    refine o_ev (ev_assign rfl) rfl ?_
    refine o_nil (sq_n (w_ret (sq_r (?_))))
    refine res_intro (vs := [_, _]) Tryz.results35 (.inr rfl) (.cons (.tmp rfl) (.cons (.tmp rfl) (.nil))) ?_
    exact ⟨_, by (repeat (first | exact Ka | refine Kb ?_ | refine Kc ?_ | refine Kf ?_ | refine Kd ?_ | refine Ke ?_ | refine Kh ?_ | refine Kg rfl ?_ | refine Ki ?_ | refine Kj ?_ | refine Kk ?_ | refine Kl ?_ | refine Km ?_ | refine Kn ?_ | refine Ko ?_)), .inl ⟨hc, rfl, rfl⟩⟩
  · skip
    obtain ⟨⟨hl1, hl2⟩, hfl⟩ := chkS_get hc
    refine o_ev (ev_assign rfl) rfl ?_
    refine o_nil (sq_n (w_seq (w_region (?_))))
    refine o_ev (ev_move rfl) rfl ?_
    refine o_ev (ev_neq_nil_nil rfl) rfl ?_
    refine o_nil (sq_n (?_))
    refine w_if_false rfl (w_skip (sq_n (w_seq (w_region (?_)))))
    refine o_st (st_call (vs := []) rfl (newWriter)) rfl ?_
    rintro _ _ ⟨bw, rfl, rfl⟩
    refine o_ev (ev_assign rfl) rfl ?_
    refine o_nil (sq_n (w_seq (w_region (?_))))
    refine o_ev (ev_move rfl) rfl ?_
    refine o_ev (ev_fieldAddr rfl) rfl ?_
    refine o_ev (ev_load rfl) rfl ?_
    refine o_ev (ev_len1 rfl) rfl ?_
    refine o_ev ((by first | exact ev_convL 18446744073709551616 rfl rfl rfl _ rfl (by omega) | exact ev_convM 18446744073709551616 rfl rfl rfl _ rfl)) rfl ?_
    refine o_st (st_call (vs := [_, _]) rfl (wUvarint fs.length (by omega) (by simp))) rfl ?_
    rintro _ _ ⟨rfl, rfl⟩
    refine o_nil (sq_n (w_seq (w_seq (w_region (?_)))))
    refine o_ev (ev_fieldAddr rfl) rfl ?_
    refine o_ev (ev_load rfl) rfl ?_
    refine o_ev (ev_len1 rfl) rfl ?_
    refine o_ev (ev_move rfl) rfl ?_
    refine o_nil (sq_n (w_block (?_)))
    refine w_loop (Nat × List Nat) (fun y => y.1 ≤ fs.length ∧ y.2 = uv fs.length ++ encFs (fs.take y.1) ∧ y.2.length ≤ 100 + 100 * y.1) (fun y => [(5, .pointer (some ⟨bw, 0, none⟩)), (22, s.val), (23, .int .i64 ((fs.length : Nat) : Int)), (24, .int .i64 ((y.1 : Nat) : Int))]) (fun y => Wr bw y.2 :: H) (fun y => fs.length - y.1) ((0, uv fs.length)) ?_ ?_ ?_ ?_
    · (try dsimp only)
      have := uv_len10 (n := fs.length) (by omega)
      exact ⟨Nat.zero_le _, by simp [encFs], by omega⟩
    · repeat (first | exact Sub.nil | refine Sub.cons rfl ?_)
    · (try dsimp only)
      (repeat (first | exact Ka | refine Kb ?_ | refine Kc ?_ | refine Kf ?_ | refine Kd ?_ | refine Ke ?_ | refine Kh ?_ | refine Kg rfl ?_ | refine Ki ?_ | refine Kj ?_ | refine Kk ?_ | refine Kl ?_ | refine Km ?_ | refine Kn ?_ | refine Ko ?_))
    · rintro ⟨i, zs⟩ ⟨hi, hI, hzl⟩
      (try dsimp only at *)
      refine w_seq (w_region (?_))
      refine o_ev (ev_lss rfl rfl) rfl ?_
      refine o_nil (sq_n (w_seq (?_)))
      refine w_if rfl (fun h1 => ?_) (fun h1 => ?_)
      · skip
        try simp only [Za, Zb, Zc, Zd, Ze, Zf, Zg, Zh] at h1
        obtain ⟨f, hfi⟩ : ∃ f, fs[i]? = some f := ⟨_, List.getElem?_eq_getElem (by omega)⟩
        obtain ⟨hfn, hk1, hk2⟩ := hfl f (List.mem_of_getElem? hfi)
        have hul := uv_len10 (n := f.name.size) (by omega)
        have hbl := byts_length f.name
        have hkB := or_kB f (by omega)
        have o0 : f.kind.toNat < 256 := by omega
        have o1 : f.kind.toNat ||| 4 < 256 := Nat.or_lt_two_pow (n := 8) o0 (by decide)
        have o2 : f.kind.toNat ||| 4 ||| 8 < 256 := Nat.or_lt_two_pow (n := 8) o1 (by decide)
        have o3 : f.kind.toNat ||| 8 < 256 := Nat.or_lt_two_pow (n := 8) o0 (by decide)
        have hel : (encF f).length ≤ 100 := by simp only [encF, List.length_append, List.length_cons, List.length_nil]; omega
        refine w_skip (sq_n (w_seq (w_block (w_seq (w_region (?_))))))
        refine o_ev (ev_indexAddr rfl rfl _ rfl (by omega)) rfl ?_
        refine o_ev (ev_loadS_el rfl (by rfl) (by rfl) _ (by first | assumption | rfl | exact List.getElem?_eq_getElem (by omega))) rfl ?_
        refine o_st (st_alloc) rfl ?_
        rintro _ _ ⟨b2, rfl, rfl⟩
        refine o_st (st_store rfl rfl rfl) rfl ?_
        rintro _ _ ⟨rfl, rfl⟩
        refine o_nil (sq_n (w_seq (w_region (?_))))
        refine o_ev (ev_move rfl) rfl ?_
        refine o_ev (ev_fieldAddr rfl) rfl ?_
        refine o_ev (ev_load rfl) rfl ?_
        refine o_st (st_call (vs := [_, _]) rfl (wText f.name (by omega) (by omega))) rfl ?_
        rintro _ _ ⟨rfl, rfl⟩
        refine o_nil (sq_n (w_seq (w_region (?_))))
        refine o_ev (ev_fieldAddr rfl) rfl ?_
        refine o_ev (ev_load rfl) rfl ?_
        refine o_ev (ev_convL 256 rfl rfl rfl f.kind.toNat (by omega) (by omega)) rfl ?_
        refine o_ev (ev_assign rfl) rfl ?_
        refine o_nil (sq_n (w_seq (w_seq (w_region (?_)))))
        refine o_ev (ev_fieldAddr rfl) rfl ?_
        refine o_ev (ev_load rfl) rfl ?_
        refine o_nil (sq_n (?_))
        refine w_if rfl (fun h2 => ?_) (fun h2 => ?_)
        · skip
          try simp only [Za, Zb, Zc, Zd, Ze, Zf, Zg, Zh] at h2
          refine w_region (?_)
          refine o_ev (ev_move rfl) rfl ?_
          refine o_ev (ev_orM 256 rfl rfl rfl rfl _ 4 rfl rfl (by first | decide | omega) (by first | decide | omega)) rfl ?_
          refine o_ev (ev_assign rfl) rfl ?_
          refine o_nil (sq_n (w_seq (w_seq (w_region (?_)))))
          refine o_ev (ev_fieldAddr rfl) rfl ?_
          refine o_ev (ev_load rfl) rfl ?_
          refine o_nil (sq_n (?_))
          refine w_if rfl (fun h3 => ?_) (fun h3 => ?_)
          · skip
            try simp only [Za, Zb, Zc, Zd, Ze, Zf, Zg, Zh] at h3
            refine w_region (?_)
            refine o_ev (ev_move rfl) rfl ?_
            refine o_ev (ev_orM 256 rfl rfl rfl rfl _ 8 rfl rfl (by first | decide | omega) (by first | decide | omega)) rfl ?_
            refine o_ev (ev_assign rfl) rfl ?_
            refine o_nil (sq_n (w_seq (w_seq (w_region (?_)))))
            refine o_ev (ev_fieldAddr rfl) rfl ?_
            refine o_ev (ev_load rfl) rfl ?_
            refine o_nil (sq_n (?_))
            refine w_if rfl (fun h4 => ?_) (fun h4 => ?_)
            · skip
              try simp only [Za, Zb, Zc, Zd, Ze, Zf, Zg, Zh] at h4
              refine w_region (?_)
              refine o_ev (ev_move rfl) rfl ?_
              refine o_ev (ev_orM 256 rfl rfl rfl rfl _ 16 rfl rfl (by first | decide | omega) (by first | decide | omega)) rfl ?_
              refine o_ev (ev_assign rfl) rfl ?_
              refine o_nil (sq_n (w_region (?_)))
              simp only [*, Bool.false_eq_true, ↓reduceIte] at hkB
              rw [hkB]
              refine o_ev (ev_move rfl) rfl ?_
              refine o_ev (ev_move rfl) rfl ?_
              refine o_st (st_call (vs := [_, _]) rfl (wByte (kB f) (by simp only [List.length_append]; omega))) rfl ?_
              rintro _ _ ⟨rfl, rfl⟩
              refine o_nil (bk_n (sq_n (w_region (?_))))
              refine o_ev (ev_add rfl rfl (by omega)) rfl ?_
              refine o_ev (ev_move rfl) rfl ?_
              refine o_nil (?_)
              skip
              refine lq_n ((i + 1, zs ++ encF f)) ?_ ?_ ?_ ?_
              · (try dsimp only)
                refine ⟨by omega, ?_, by simp only [List.length_append]; omega⟩
                rw [hI, take_succ_get hfi, encFs_snoc, List.append_assoc]
              · (try dsimp only)
                omega
              · repeat (first | exact Sub.nil | refine Sub.cons rfl ?_)
              · (try dsimp only)
                rw [show zs ++ encF f = zs ++ (uv f.name.size ++ byts f.name) ++ [kB f] by simp [encF]]
                (repeat (first | exact Ka | refine Kb ?_ | refine Kc ?_ | refine Kf ?_ | refine Kd ?_ | refine Ke ?_ | refine Kh ?_ | refine Kg rfl ?_ | refine Ki ?_ | refine Kj ?_ | refine Kk ?_ | refine Kl ?_ | refine Km ?_ | refine Kn ?_ | refine Ko ?_))
            · skip
              try simp only [Za, Zb, Zc, Zd, Ze, Zf, Zg, Zh] at h4
              refine w_skip (sq_n (w_region (?_)))
              simp only [*, Bool.false_eq_true, ↓reduceIte] at hkB
              rw [hkB]
              refine o_ev (ev_move rfl) rfl ?_
              refine o_ev (ev_move rfl) rfl ?_
              refine o_st (st_call (vs := [_, _]) rfl (wByte (kB f) (by simp only [List.length_append]; omega))) rfl ?_
              rintro _ _ ⟨rfl, rfl⟩
              refine o_nil (bk_n (sq_n (w_region (?_))))
              refine o_ev (ev_add rfl rfl (by omega)) rfl ?_
              refine o_ev (ev_move rfl) rfl ?_
              refine o_nil (?_)
              skip
              refine lq_n ((i + 1, zs ++ encF f)) ?_ ?_ ?_ ?_
              · (try dsimp only)
                refine ⟨by omega, ?_, by simp only [List.length_append]; omega⟩
                rw [hI, take_succ_get hfi, encFs_snoc, List.append_assoc]
              · (try dsimp only)
                omega
              · repeat (first | exact Sub.nil | refine Sub.cons rfl ?_)
              · (try dsimp only)
                rw [show zs ++ encF f = zs ++ (uv f.name.size ++ byts f.name) ++ [kB f] by simp [encF]]
                (repeat (first | exact Ka | refine Kb ?_ | refine Kc ?_ | refine Kf ?_ | refine Kd ?_ | refine Ke ?_ | refine Kh ?_ | refine Kg rfl ?_ | refine Ki ?_ | refine Kj ?_ | refine Kk ?_ | refine Kl ?_ | refine Km ?_ | refine Kn ?_ | refine Ko ?_))
          · skip
            try simp only [Za, Zb, Zc, Zd, Ze, Zf, Zg, Zh] at h3
            refine w_skip (sq_n (w_seq (w_seq (w_region (?_)))))
            refine o_ev (ev_fieldAddr rfl) rfl ?_
            refine o_ev (ev_load rfl) rfl ?_
            refine o_nil (sq_n (?_))
            refine w_if rfl (fun h5 => ?_) (fun h5 => ?_)
            · skip
              try simp only [Za, Zb, Zc, Zd, Ze, Zf, Zg, Zh] at h5
              refine w_region (?_)
              refine o_ev (ev_move rfl) rfl ?_
              refine o_ev (ev_orM 256 rfl rfl rfl rfl _ 16 rfl rfl (by first | decide | omega) (by first | decide | omega)) rfl ?_
              refine o_ev (ev_assign rfl) rfl ?_
              refine o_nil (sq_n (w_region (?_)))
              simp only [*, Bool.false_eq_true, ↓reduceIte] at hkB
              rw [hkB]
              refine o_ev (ev_move rfl) rfl ?_
              refine o_ev (ev_move rfl) rfl ?_
              refine o_st (st_call (vs := [_, _]) rfl (wByte (kB f) (by simp only [List.length_append]; omega))) rfl ?_
              rintro _ _ ⟨rfl, rfl⟩
              refine o_nil (bk_n (sq_n (w_region (?_))))
              refine o_ev (ev_add rfl rfl (by omega)) rfl ?_
              refine o_ev (ev_move rfl) rfl ?_
              refine o_nil (?_)
              skip
              refine lq_n ((i + 1, zs ++ encF f)) ?_ ?_ ?_ ?_
              · (try dsimp only)
                refine ⟨by omega, ?_, by simp only [List.length_append]; omega⟩
                rw [hI, take_succ_get hfi, encFs_snoc, List.append_assoc]
              · (try dsimp only)
                omega
              · repeat (first | exact Sub.nil | refine Sub.cons rfl ?_)
              · (try dsimp only)
                rw [show zs ++ encF f = zs ++ (uv f.name.size ++ byts f.name) ++ [kB f] by simp [encF]]
                (repeat (first | exact Ka | refine Kb ?_ | refine Kc ?_ | refine Kf ?_ | refine Kd ?_ | refine Ke ?_ | refine Kh ?_ | refine Kg rfl ?_ | refine Ki ?_ | refine Kj ?_ | refine Kk ?_ | refine Kl ?_ | refine Km ?_ | refine Kn ?_ | refine Ko ?_))
            · skip
              try simp only [Za, Zb, Zc, Zd, Ze, Zf, Zg, Zh] at h5
              refine w_skip (sq_n (w_region (?_)))
              simp only [*, Bool.false_eq_true, ↓reduceIte] at hkB
              rw [hkB]
              refine o_ev (ev_move rfl) rfl ?_
              refine o_ev (ev_move rfl) rfl ?_
              refine o_st (st_call (vs := [_, _]) rfl (wByte (kB f) (by simp only [List.length_append]; omega))) rfl ?_
              rintro _ _ ⟨rfl, rfl⟩
              refine o_nil (bk_n (sq_n (w_region (?_))))
              refine o_ev (ev_add rfl rfl (by omega)) rfl ?_
              refine o_ev (ev_move rfl) rfl ?_
              refine o_nil (?_)
              skip
              refine lq_n ((i + 1, zs ++ encF f)) ?_ ?_ ?_ ?_
              · (try dsimp only)
                refine ⟨by omega, ?_, by simp only [List.length_append]; omega⟩
                rw [hI, take_succ_get hfi, encFs_snoc, List.append_assoc]
              · (try dsimp only)
                omega
              · repeat (first | exact Sub.nil | refine Sub.cons rfl ?_)
              · (try dsimp only)
                rw [show zs ++ encF f = zs ++ (uv f.name.size ++ byts f.name) ++ [kB f] by simp [encF]]
                (repeat (first | exact Ka | refine Kb ?_ | refine Kc ?_ | refine Kf ?_ | refine Kd ?_ | refine Ke ?_ | refine Kh ?_ | refine Kg rfl ?_ | refine Ki ?_ | refine Kj ?_ | refine Kk ?_ | refine Kl ?_ | refine Km ?_ | refine Kn ?_ | refine Ko ?_))
        · skip
          try simp only [Za, Zb, Zc, Zd, Ze, Zf, Zg, Zh] at h2
          refine w_skip (sq_n (w_seq (w_seq (w_region (?_)))))
          refine o_ev (ev_fieldAddr rfl) rfl ?_
          refine o_ev (ev_load rfl) rfl ?_
          refine o_nil (sq_n (?_))
          refine w_if rfl (fun h6 => ?_) (fun h6 => ?_)
          · skip
            try simp only [Za, Zb, Zc, Zd, Ze, Zf, Zg, Zh] at h6
            refine w_region (?_)
            refine o_ev (ev_move rfl) rfl ?_
            refine o_ev (ev_orM 256 rfl rfl rfl rfl _ 8 rfl rfl (by first | decide | omega) (by first | decide | omega)) rfl ?_
            refine o_ev (ev_assign rfl) rfl ?_
            refine o_nil (sq_n (w_seq (w_seq (w_region (?_)))))
            refine o_ev (ev_fieldAddr rfl) rfl ?_
            refine o_ev (ev_load rfl) rfl ?_
            refine o_nil (sq_n (?_))
            refine w_if rfl (fun h7 => ?_) (fun h7 => ?_)
            · skip
              try simp only [Za, Zb, Zc, Zd, Ze, Zf, Zg, Zh] at h7
              refine w_region (?_)
              refine o_ev (ev_move rfl) rfl ?_
              refine o_ev (ev_orM 256 rfl rfl rfl rfl _ 16 rfl rfl (by first | decide | omega) (by first | decide | omega)) rfl ?_
              refine o_ev (ev_assign rfl) rfl ?_
              refine o_nil (sq_n (w_region (?_)))
              simp only [*, Bool.false_eq_true, ↓reduceIte] at hkB
              rw [hkB]
              refine o_ev (ev_move rfl) rfl ?_
              refine o_ev (ev_move rfl) rfl ?_
              refine o_st (st_call (vs := [_, _]) rfl (wByte (kB f) (by simp only [List.length_append]; omega))) rfl ?_
              rintro _ _ ⟨rfl, rfl⟩
              refine o_nil (bk_n (sq_n (w_region (?_))))
              refine o_ev (ev_add rfl rfl (by omega)) rfl ?_
              refine o_ev (ev_move rfl) rfl ?_
              refine o_nil (?_)
              skip
              refine lq_n ((i + 1, zs ++ encF f)) ?_ ?_ ?_ ?_
              · (try dsimp only)
                refine ⟨by omega, ?_, by simp only [List.length_append]; omega⟩
                rw [hI, take_succ_get hfi, encFs_snoc, List.append_assoc]
              · (try dsimp only)
                omega
              · repeat (first | exact Sub.nil | refine Sub.cons rfl ?_)
              · (try dsimp only)
                rw [show zs ++ encF f = zs ++ (uv f.name.size ++ byts f.name) ++ [kB f] by simp [encF]]
                (repeat (first | exact Ka | refine Kb ?_ | refine Kc ?_ | refine Kf ?_ | refine Kd ?_ | refine Ke ?_ | refine Kh ?_ | refine Kg rfl ?_ | refine Ki ?_ | refine Kj ?_ | refine Kk ?_ | refine Kl ?_ | refine Km ?_ | refine Kn ?_ | refine Ko ?_))
            · skip
              try simp only [Za, Zb, Zc, Zd, Ze, Zf, Zg, Zh] at h7
              refine w_skip (sq_n (w_region (?_)))
              simp only [*, Bool.false_eq_true, ↓reduceIte] at hkB
              rw [hkB]
              refine o_ev (ev_move rfl) rfl ?_
              refine o_ev (ev_move rfl) rfl ?_
              refine o_st (st_call (vs := [_, _]) rfl (wByte (kB f) (by simp only [List.length_append]; omega))) rfl ?_
              rintro _ _ ⟨rfl, rfl⟩
              refine o_nil (bk_n (sq_n (w_region (?_))))
              refine o_ev (ev_add rfl rfl (by omega)) rfl ?_
              refine o_ev (ev_move rfl) rfl ?_
              refine o_nil (?_)
              skip
              refine lq_n ((i + 1, zs ++ encF f)) ?_ ?_ ?_ ?_
              · (try dsimp only)
                refine ⟨by omega, ?_, by simp only [List.length_append]; omega⟩
                rw [hI, take_succ_get hfi, encFs_snoc, List.append_assoc]
              · (try dsimp only)
                omega
              · repeat (first | exact Sub.nil | refine Sub.cons rfl ?_)
              · (try dsimp only)
                rw [show zs ++ encF f = zs ++ (uv f.name.size ++ byts f.name) ++ [kB f] by simp [encF]]
                (repeat (first | exact Ka | refine Kb ?_ | refine Kc ?_ | refine Kf ?_ | refine Kd ?_ | refine Ke ?_ | refine Kh ?_ | refine Kg rfl ?_ | refine Ki ?_ | refine Kj ?_ | refine Kk ?_ | refine Kl ?_ | refine Km ?_ | refine Kn ?_ | refine Ko ?_))
          · skip
            try simp only [Za, Zb, Zc, Zd, Ze, Zf, Zg, Zh] at h6
            refine w_skip (sq_n (w_seq (w_seq (w_region (?_)))))
            refine o_ev (ev_fieldAddr rfl) rfl ?_
            refine o_ev (ev_load rfl) rfl ?_
            refine o_nil (sq_n (?_))
            refine w_if rfl (fun h8 => ?_) (fun h8 => ?_)
            · skip
              try simp only [Za, Zb, Zc, Zd, Ze, Zf, Zg, Zh] at h8
              refine w_region (?_)
              refine o_ev (ev_move rfl) rfl ?_
              refine o_ev (ev_orM 256 rfl rfl rfl rfl _ 16 rfl rfl (by first | decide | omega) (by first | decide | omega)) rfl ?_
              refine o_ev (ev_assign rfl) rfl ?_
              refine o_nil (sq_n (w_region (?_)))
              simp only [*, Bool.false_eq_true, ↓reduceIte] at hkB
              rw [hkB]
              refine o_ev (ev_move rfl) rfl ?_
              refine o_ev (ev_move rfl) rfl ?_
              refine o_st (st_call (vs := [_, _]) rfl (wByte (kB f) (by simp only [List.length_append]; omega))) rfl ?_
              rintro _ _ ⟨rfl, rfl⟩
              refine o_nil (bk_n (sq_n (w_region (?_))))
              refine o_ev (ev_add rfl rfl (by omega)) rfl ?_
              refine o_ev (ev_move rfl) rfl ?_
              refine o_nil (?_)
              skip
              refine lq_n ((i + 1, zs ++ encF f)) ?_ ?_ ?_ ?_
              · (try dsimp only)
                refine ⟨by omega, ?_, by simp only [List.length_append]; omega⟩
                rw [hI, take_succ_get hfi, encFs_snoc, List.append_assoc]
              · (try dsimp only)
                omega
              · repeat (first | exact Sub.nil | refine Sub.cons rfl ?_)
              · (try dsimp only)
                rw [show zs ++ encF f = zs ++ (uv f.name.size ++ byts f.name) ++ [kB f] by simp [encF]]
                (repeat (first | exact Ka | refine Kb ?_ | refine Kc ?_ | refine Kf ?_ | refine Kd ?_ | refine Ke ?_ | refine Kh ?_ | refine Kg rfl ?_ | refine Ki ?_ | refine Kj ?_ | refine Kk ?_ | refine Kl ?_ | refine Km ?_ | refine Kn ?_ | refine Ko ?_))
            · skip
              try simp only [Za, Zb, Zc, Zd, Ze, Zf, Zg, Zh] at h8
              refine w_skip (sq_n (w_region (?_)))
              simp only [*, Bool.false_eq_true, ↓reduceIte] at hkB
              rw [hkB]
              refine o_ev (ev_move rfl) rfl ?_
              refine o_ev (ev_move rfl) rfl ?_
              refine o_st (st_call (vs := [_, _]) rfl (wByte (kB f) (by simp only [List.length_append]; omega))) rfl ?_
              rintro _ _ ⟨rfl, rfl⟩
              refine o_nil (bk_n (sq_n (w_region (?_))))
              refine o_ev (ev_add rfl rfl (by omega)) rfl ?_
              refine o_ev (ev_move rfl) rfl ?_
              refine o_nil (?_)
              skip
              refine lq_n ((i + 1, zs ++ encF f)) ?_ ?_ ?_ ?_
              · (try dsimp only)
                refine ⟨by omega, ?_, by simp only [List.length_append]; omega⟩
                rw [hI, take_succ_get hfi, encFs_snoc, List.append_assoc]
              · (try dsimp only)
                omega
              · repeat (first | exact Sub.nil | refine Sub.cons rfl ?_)
              · (try dsimp only)
                rw [show zs ++ encF f = zs ++ (uv f.name.size ++ byts f.name) ++ [kB f] by simp [encF]]
                (repeat (first | exact Ka | refine Kb ?_ | refine Kc ?_ | refine Kf ?_ | refine Kd ?_ | refine Ke ?_ | refine Kh ?_ | refine Kg rfl ?_ | refine Ki ?_ | refine Kj ?_ | refine Kk ?_ | refine Kl ?_ | refine Km ?_ | refine Kn ?_ | refine Ko ?_))
      · skip
        try simp only [Za, Zb, Zc, Zd, Ze, Zf, Zg, Zh] at h1
        obtain rfl : i = fs.length := by omega
        rw [List.take_length] at hI
        have hI' : zs = encS fs := hI
        subst hI'
        refine w_exit (sq_e (lq_e (bk_h (sq_n (w_seq (w_region (?_)))))))
        refine o_ev (ev_move rfl) rfl ?_
        refine o_st (st_call (vs := [_]) rfl (wBytes (by omega))) rfl ?_
        rintro _ _ ⟨s1, rfl, rfl⟩
        refine o_ev (ev_assign rfl) rfl ?_
        refine o_ev (ev_assign rfl) rfl ?_
        refine o_nil (sq_n (w_ret (?_)))
        refine res_intro (vs := [_, _]) Tryz.results35 (.inr rfl) (.cons (.tmp rfl) (.cons (.tmp rfl) (.nil))) ?_
        exact ⟨_, by (repeat (first | exact Ka | refine Kb ?_ | refine Kc ?_ | refine Kf ?_ | refine Kd ?_ | refine Ke ?_ | refine Kh ?_ | refine Kg rfl ?_ | refine Ki ?_ | refine Kj ?_ | refine Kk ?_ | refine Kl ?_ | refine Km ?_ | refine Kn ?_ | refine Ko ?_)), .inr ⟨hc, s1, rfl, rfl⟩⟩
end Go.Sx
