import Derived.Test.YtcbidldebfibkaaGreatDoorW36
set_option linter.unusedVariables false
set_option linter.unusedSimpArgs false
set_option linter.unusedSectionVars false
set_option linter.unnecessarySimpa false
namespace Go.Sx
open Go Go.Proofs
set_option maxRecDepth 100000
set_option linter.unusedSimpArgs false
set_option linter.unusedVariables false

/-! ## Does each list own its memory? -/
def mB (i k : Nat) : List Nat := (List.range k).map fun j => mkN i j % 256
def mI (i k : Nat) : List Int := (List.range k).map fun j => ((mkN i j : Nat) : Int)
theorem mB_len (i k : Nat) : (mB i k).length = k := by simp [mB]
theorem mI_len (i k : Nat) : (mI i k).length = k := by simp [mI]
theorem mB_succ (i k : Nat) : mB i (k + 1) = mB i k ++ [mkN i k % 256] := by simp [mB, List.range_succ]
theorem mI_succ (i k : Nat) : mI i (k + 1) = mI i k ++ [((mkN i k : Nat) : Int)] := by simp [mI, List.range_succ]
theorem mB_get {i k j : Nat} (h : j < k) : (mB i k)[j]? = some (mkN i j % 256) := by simp [mB, h]
theorem mI_get {i k j : Nat} (h : j < k) : (mI i k)[j]? = some ((mkN i j : Nat) : Int) := by simp [mI, h]
theorem mB_lt (i k : Nat) : ∀ x ∈ mB i k, x < 256 := by
  intro x hx
  obtain ⟨j, _, rfl⟩ := List.mem_map.1 hx
  omega
theorem mI_le (i k : Nat) : ∀ x ∈ mI i k, x ≤ 9223372036854775807 := by
  intro x hx
  obtain ⟨j, _, rfl⟩ := List.mem_map.1 hx
  have := mk2_lt i j
  unfold mkN
  omega
theorem mB_eq {i n : Nat} {ws : List Nat} (hl : ws.length = n) (h : ∀ j, j < n → ws[j]? = some (mkN i j % 256)) : ws = mB i n := by
  apply List.ext_getElem?
  intro j
  by_cases hj : j < n
  · rw [h j hj, mB_get hj]
  · rw [List.getElem?_eq_none (by omega), List.getElem?_eq_none (by rw [mB_len]; omega)]
theorem mI_eq {i n : Nat} {ws : List Int} (hl : ws.length = n) (h : ∀ j, j < n → ws[j]? = some ((mkN i j : Nat) : Int)) : ws = mI i n := by
  apply List.ext_getElem?
  intro j
  by_cases hj : j < n
  · rw [h j hj, mI_get hj]
  · rw [List.getElem?_eq_none (by omega), List.getElem?_eq_none (by rw [mI_len]; omega)]
theorem set_fn {α : Type} {f : Nat → α} {ws : List α} {j n : Nat} (hl : ws.length = n) (hj : j < n) (h : ∀ k, k < j → ws[k]? = some (f k)) : ∀ k, k < j + 1 → (ws.set j (f j))[k]? = some (f k) := by
  intro k hk
  rcases Nat.lt_or_eq_of_le (Nat.le_of_lt_succ hk) with h2 | rfl
  · rw [List.getElem?_set_ne (by omega)]; exact h k h2
  · rw [List.getElem?_set_self (by omega)]
def rwB (x : SV × List Nat) : Heap := [Row x.1 eB x.2]
def rwI (x : SV × List Int) : Heap := [Row x.1 eI x.2]
def gwB0 (x : SV × List Nat) : GSt Nat := ⟨x.1, x.2, x.1, x.2⟩
def gwI0 (x : SV × List Int) : GSt Int := ⟨x.1, x.2, x.1, x.2⟩
def gwB (x : GSt Nat) : Heap := [Gw eB x]
def gwI (x : GSt Int) : Heap := [Gw eI x]

theorem ownB {G : Base} {H : Heap} {sl : SV} {zs : List (SV × List Nat)} [Sl H sl eSV (zs.map (·.1))] (hn : zs.length ≤ 1000000000) (hl : ∀ x ∈ zs, x.2.length ≤ 100000000000) :
    SC G Tryz.prog 21 [sl.val] (Cl rwB zs :: H) (fun v H' => v = .bool true ∧ ∃ zs', zs'.length = zs.length ∧ (∀ j x, zs[j]? = some x → zs'[j]? = some (x.1, mB j x.2.length)) ∧ H' = Cl rwB zs' :: H) := by
  have hml : (zs.map (·.1)).length = zs.length := List.length_map ..
  refine SC.out (sc_walk Tryz.func21 rfl Tryz.ntmps21 (by kernel_rfl) (Nat.le_of_ble_eq_true rfl) ?_)
  refine w_seq (w_region (?_))
  refine o_ev (ev_assign rfl) rfl ?_
  refine o_nil (sq_n (w_seq (w_seq (w_region (?_)))))
  refine o_ev (ev_move rfl) rfl ?_
  refine o_ev (ev_len1 rfl) rfl ?_
  refine o_ev (ev_move rfl) rfl ?_
  refine o_nil (sq_n (w_block (?_)))
  refine w_loop (List (SV × List Nat) × Nat) (fun y => y.2 ≤ zs.length ∧ y.1.length = zs.length ∧ (∀ j x, j < y.2 → zs[j]? = some x → y.1[j]? = some (x.1, mB j x.2.length)) ∧ ∀ j, y.2 ≤ j → y.1[j]? = zs[j]?) (fun y => [(0, sl.val), (13, sl.val), (14, .int .i64 (((zs.map (·.1)).length : Nat) : Int)), (15, .int .i64 ((y.2 : Nat) : Int))]) (fun y => Cl rwB y.1 :: H) (fun y => zs.length - y.2) ((zs, 0)) ?_ ?_ ?_ ?_
  · (try dsimp only)
    exact ⟨Nat.zero_le _, rfl, fun j x h => absurd h (Nat.not_lt_zero _), fun _ _ => rfl⟩
  · repeat (first | exact Sub.nil | refine Sub.cons rfl ?_)
  · (try dsimp only)
    (repeat (first | exact Ka | refine Kb ?_ | refine Kc ?_ | refine Kf ?_ | refine Kd ?_ | refine Ke ?_ | refine Kh ?_ | refine Kg rfl ?_ | refine Ki ?_ | refine Kj ?_ | refine Kk ?_ | refine Kl ?_ | refine Km ?_ | refine Kn ?_ | refine Ko ?_))
  · rintro ⟨ys, i⟩ ⟨hi, hyl, hy0, hy1⟩
    (try dsimp only at *)
    refine w_seq (w_region (?_))
    refine o_ev (ev_lss rfl rfl) rfl ?_
    refine o_nil (sq_n (w_seq (?_)))
    refine w_if rfl (fun h1 => ?_) (fun h1 => ?_)
    · skip
      try simp only [Za, Zb, Zc, Zd, Ze, Zf, Zg, Zh] at h1
      obtain ⟨x, hx⟩ : ∃ x, zs[i]? = some x := ⟨_, List.getElem?_eq_getElem (by omega)⟩
      have hx1 : (zs.map (·.1))[i]? = some x.1 := by rw [List.getElem?_map, hx]; rfl
      have hyx : ys[i]? = some x := (hy1 i (Nat.le_refl _)).trans hx
      have hxl := hl x (List.mem_of_getElem? hx)
      refine w_hsub (H' := Row x.1 eB x.2 :: Cl rwB (ys.take i) :: Cl rwB (ys.drop (i + 1)) :: H) (cl_open (f := rwB) hyx) ?_
      refine w_skip (sq_n (w_seq (w_block (w_seq (w_region (?_))))))
      refine o_ev (ev_move rfl) rfl ?_
      refine o_ev (ev_indexAddr rfl rfl i rfl (by omega)) rfl ?_
      refine o_ev (ev_load_el rfl (by rfl) (by rfl) x.1 hx1) rfl ?_
      refine o_ev (ev_assign rfl) rfl ?_
      refine o_ev (ev_assign rfl) rfl ?_
      refine o_nil (sq_n (w_seq (w_region (?_))))
      refine o_ev (ev_move rfl) rfl ?_
      refine o_ev (ev_len1 rfl) rfl ?_
      refine o_ev (ev_move rfl) rfl ?_
      refine o_nil (sq_n (w_block (?_)))
      refine w_loop (List Nat × Nat) (fun y => y.2 ≤ x.2.length ∧ y.1.length = x.2.length ∧ ∀ j, j < y.2 → y.1[j]? = some (mkN i (j) % 256)) (fun y => [(0, sl.val), (3, .int .i64 ((i : Nat) : Int)), (4, x.1.val), (13, sl.val), (14, .int .i64 (((zs.map (·.1)).length : Nat) : Int)), (15, .int .i64 ((i : Nat) : Int)), (21, .int .i64 ((x.2.length : Nat) : Int)), (22, .int .i64 ((y.2 : Nat) : Int))]) (fun y => Row x.1 eB y.1 :: Cl rwB (ys.take i) :: Cl rwB (ys.drop (i + 1)) :: H) (fun y => x.2.length - y.2) ((x.2, 0)) ?_ ?_ ?_ ?_
      · (try dsimp only)
        exact ⟨Nat.zero_le _, rfl, fun j h => absurd h (Nat.not_lt_zero _)⟩
      · repeat (first | exact Sub.nil | refine Sub.cons rfl ?_)
      · (try dsimp only)
        (repeat (first | exact Ka | refine Kb ?_ | refine Kc ?_ | refine Kf ?_ | refine Kd ?_ | refine Ke ?_ | refine Kh ?_ | refine Kg rfl ?_ | refine Ki ?_ | refine Kj ?_ | refine Kk ?_ | refine Kl ?_ | refine Km ?_ | refine Kn ?_ | refine Ko ?_))
      · rintro ⟨ws, j⟩ ⟨hj, hwl, hw0⟩
        (try dsimp only at *)
        refine w_seq (w_region (?_))
        refine o_ev (ev_lss rfl rfl) rfl ?_
        refine o_nil (sq_n (w_seq (?_)))
        refine w_if rfl (fun h2 => ?_) (fun h2 => ?_)
        · skip
          try simp only [Za, Zb, Zc, Zd, Ze, Zf, Zg, Zh] at h2
          refine w_skip (sq_n (w_seq (w_block (w_seq (w_region (?_))))))
          refine o_ev (ev_move rfl) rfl ?_
          refine o_ev (ev_assign rfl) rfl ?_
          refine o_nil (sq_n (w_region (?_)))
          refine o_ev (ev_move rfl) rfl ?_
          refine o_ev (ev_move rfl) rfl ?_
          refine o_ev (ev_move rfl) rfl ?_
          refine o_ev (ev_move rfl) rfl ?_
          refine o_st (st_call (vs := [_, _]) rfl (markPr (i := i) (j := j) (by omega) (by omega))) rfl ?_
          rintro _ _ ⟨rfl, rfl⟩
          refine o_ev (ev_convM 256 rfl rfl rfl (mkN i (j)) rfl) rfl ?_
          refine o_ev (ev_indexAddr rfl rfl j rfl (by omega)) rfl ?_
          refine o_st (st_store_el (a := mkN i (j) % 256) rfl rfl (by rfl) (by omega)) rfl ?_
          rintro _ _ ⟨rfl, rfl⟩
          refine o_nil (bk_n (sq_n (w_region (?_))))
          refine o_ev (ev_add rfl rfl (by omega)) rfl ?_
          refine o_ev (ev_move rfl) rfl ?_
          refine o_nil (?_)
          skip
          refine lq_n ((ws.set j (mkN i (j) % 256), j + 1)) ?_ ?_ ?_ ?_
          · (try dsimp only)
            exact ⟨by omega, by rw [List.length_set]; exact hwl, set_fn hwl (by omega) hw0⟩
          · (try dsimp only)
            omega
          · repeat (first | exact Sub.nil | refine Sub.cons rfl ?_)
          · (try dsimp only)
            (repeat (first | exact Ka | refine Kb ?_ | refine Kc ?_ | refine Kf ?_ | refine Kd ?_ | refine Ke ?_ | refine Kh ?_ | refine Kg rfl ?_ | refine Ki ?_ | refine Kj ?_ | refine Kk ?_ | refine Kl ?_ | refine Km ?_ | refine Kn ?_ | refine Ko ?_))
        · skip
          try simp only [Za, Zb, Zc, Zd, Ze, Zf, Zg, Zh] at h2
          obtain rfl : ws = mB i x.2.length := mB_eq hwl (fun k hk => hw0 k (by omega))
          refine w_exit (sq_e (lq_e (bk_h (bk_n (sq_n (w_region (?_)))))))
          refine o_ev (ev_add rfl rfl (by omega)) rfl ?_
          refine o_ev (ev_move rfl) rfl ?_
          refine o_nil (?_)
          skip
          refine lq_n ((ys.set i (x.1, mB i x.2.length), i + 1)) ?_ ?_ ?_ ?_
          · (try dsimp only)
            refine ⟨by omega, by rw [List.length_set]; exact hyl, fun k y hk hky => ?_, fun k hk => by rw [List.getElem?_set_ne (by omega)]; exact hy1 k (by omega)⟩
            rcases Nat.lt_or_eq_of_le (Nat.le_of_lt_succ hk) with h | rfl
            · rw [List.getElem?_set_ne (by omega)]; exact hy0 k y h hky
            · rw [hx] at hky; cases hky; rw [List.getElem?_set_self (by omega)]
          · (try dsimp only)
            omega
          · repeat (first | exact Sub.nil | refine Sub.cons rfl ?_)
          · (try dsimp only)
            exact HSub.trans (by (repeat (first | exact Ka | refine Kb ?_ | refine Kc ?_ | refine Kf ?_ | refine Kd ?_ | refine Ke ?_ | refine Kh ?_ | refine Kg rfl ?_ | refine Ki ?_ | refine Kj ?_ | refine Kk ?_ | refine Kl ?_ | refine Km ?_ | refine Kn ?_ | refine Ko ?_))) (cl_close (f := rwB) (x.1, mB i x.2.length) (by omega))
    · skip
      try simp only [Za, Zb, Zc, Zd, Ze, Zf, Zg, Zh] at h1
      have hys : ∀ j x, zs[j]? = some x → ys[j]? = some (x.1, mB j x.2.length) := fun j x hx => hy0 j x (by have := (List.getElem?_eq_some_iff.1 hx).1; omega) hx
      have hyz : ys.map (·.1) = zs.map (·.1) := by
        apply List.ext_getElem?
        intro j
        rw [List.getElem?_map, List.getElem?_map]
        cases hj : zs[j]? with
        | none => rw [List.getElem?_eq_none (by have := List.getElem?_eq_none_iff.1 hj; omega)]
        | some x => rw [hys j x hj]; rfl
      refine w_exit (sq_e (lq_e (bk_h (sq_n (w_seq (w_region (?_)))))))
      refine o_st (st_build0 eSV rfl) rfl ?_
      rintro _ _ ⟨s0, rfl, rfl⟩
      refine o_ev (ev_move rfl) rfl ?_
      refine o_st (st_append rfl rfl rfl rfl (by simp only [List.length_nil]; omega) (by simp only [List.length_nil]; omega)) rfl ?_
      rintro _ _ ⟨sg, rfl, rfl⟩
      rw [List.nil_append]
      refine o_hsub (H' := Row sg eSV ((ys.map gwB0).map (·.g)) :: Cl gwB (ys.map gwB0) :: H) (by rw [List.map_map, show ((·.g) ∘ gwB0) = (·.1) from rfl, hyz]; exact HSub.keep (cl_map fun x _ => gw_start)) ?_
      refine o_ev (ev_assign rfl) rfl ?_
      refine o_nil (sq_n (w_seq (w_seq (w_region (?_)))))
      refine o_ev (ev_assign rfl) rfl ?_
      refine o_nil (sq_n (w_block (?_)))
      refine w_loop (List (GSt Nat) × Nat) (fun y => y.2 ≤ 80 ∧ y.1.length = zs.length ∧ ∀ j x, zs[j]? = some x → ∃ s, y.1[j]? = some (GSt.mk x.1 (mB j x.2.length) s (mB j (x.2.length + y.2)))) (fun y => [(0, sl.val), (6, sg.val), (7, .int .i64 ((y.2 : Nat) : Int))]) (fun y => Row sg eSV (y.1.map (·.g)) :: Cl gwB y.1 :: H) (fun y => 80 - y.2) ((ys.map gwB0, 0)) ?_ ?_ ?_ ?_
      · (try dsimp only)
        refine ⟨Nat.zero_le _, by rw [List.length_map]; exact hyl, fun j x hx => ⟨x.1, ?_⟩⟩
        rw [List.getElem?_map, hys j x hx]; rfl
      · repeat (first | exact Sub.nil | refine Sub.cons rfl ?_)
      · (try dsimp only)
        (repeat (first | exact Ka | refine Kb ?_ | refine Kc ?_ | refine Kf ?_ | refine Kd ?_ | refine Ke ?_ | refine Kh ?_ | refine Kg rfl ?_ | refine Ki ?_ | refine Kj ?_ | refine Kk ?_ | refine Kl ?_ | refine Km ?_ | refine Kn ?_ | refine Ko ?_))
      · rintro ⟨us, k⟩ ⟨hk, hul, hu⟩
        (try dsimp only at *)
        refine w_seq (w_seq (w_region (?_)))
        refine o_ev (ev_move rfl) rfl ?_
        refine o_ev (ev_lss rfl rfl) rfl ?_
        refine o_nil (sq_n (?_))
        refine w_if rfl (fun h3 => ?_) (fun h3 => ?_)
        · skip
          try simp only [Za, Zb, Zc, Zd, Ze, Zf, Zg, Zh] at h3
          refine w_skip (sq_n (w_seq (w_block (w_seq (w_region (?_))))))
          refine o_ev (ev_move rfl) rfl ?_
          refine o_ev (ev_len1 rfl) rfl ?_
          refine o_ev (ev_move rfl) rfl ?_
          refine o_nil (sq_n (w_block (?_)))
          refine w_loop (List (GSt Nat) × Nat) (fun y => y.2 ≤ zs.length ∧ y.1.length = zs.length ∧ ∀ j x, zs[j]? = some x → ∃ s, y.1[j]? = some (GSt.mk x.1 (mB j x.2.length) s (mB j (x.2.length + (if j < y.2 then k + 1 else k))))) (fun y => [(0, sl.val), (6, sg.val), (7, .int .i64 ((k : Nat) : Int)), (42, .int .i64 ((zs.length : Nat) : Int)), (43, .int .i64 ((y.2 : Nat) : Int))]) (fun y => Row sg eSV (y.1.map (·.g)) :: Cl gwB y.1 :: H) (fun y => zs.length - y.2) ((us, 0)) ?_ ?_ ?_ ?_
          · (try dsimp only)
            exact ⟨Nat.zero_le _, hul, fun j x hx => by rw [if_neg (Nat.not_lt_zero _)]; exact hu j x hx⟩
          · rw [List.length_map, hul]; repeat (first | exact Sub.nil | refine Sub.cons rfl ?_)
          · (try dsimp only)
            (repeat (first | exact Ka | refine Kb ?_ | refine Kc ?_ | refine Kf ?_ | refine Kd ?_ | refine Ke ?_ | refine Kh ?_ | refine Kg rfl ?_ | refine Ki ?_ | refine Kj ?_ | refine Kk ?_ | refine Kl ?_ | refine Km ?_ | refine Kn ?_ | refine Ko ?_))
          · rintro ⟨vs, i2⟩ ⟨hi2, hvl, hv⟩
            (try dsimp only at *)
            refine w_seq (w_region (?_))
            refine o_ev (ev_lss rfl rfl) rfl ?_
            refine o_nil (sq_n (w_seq (?_)))
            refine w_if rfl (fun h4 => ?_) (fun h4 => ?_)
            · skip
              try simp only [Za, Zb, Zc, Zd, Ze, Zf, Zg, Zh] at h4
              obtain ⟨x, hx⟩ : ∃ x, zs[i2]? = some x := ⟨_, List.getElem?_eq_getElem (by omega)⟩
              obtain ⟨sx, hsx⟩ := hv i2 x hx
              rw [if_neg (Nat.lt_irrefl _)] at hsx
              have hxl := hl x (List.mem_of_getElem? hx)
              have hgl : (vs.map (·.g)).length = zs.length := by rw [List.length_map]; exact hvl
              have hg1 : (vs.map (·.g))[i2]? = some sx := by rw [List.getElem?_map, hsx]; rfl
              refine w_hsub (H' := Gw eB ⟨x.1, mB i2 x.2.length, sx, mB i2 (x.2.length + k)⟩ :: Cl gwB (vs.take i2) :: Cl gwB (vs.drop (i2 + 1)) :: Row sg eSV (vs.map (·.g)) :: H) (HSub.trans (H' := Cl gwB vs :: Row sg eSV (vs.map (·.g)) :: H) (by (repeat (first | exact Ka | refine Kb ?_ | refine Kc ?_ | refine Kf ?_ | refine Kd ?_ | refine Ke ?_ | refine Kh ?_ | refine Kg rfl ?_ | refine Ki ?_ | refine Kj ?_ | refine Kk ?_ | refine Kl ?_ | refine Km ?_ | refine Kn ?_ | refine Ko ?_))) (cl_open (f := gwB) hsx)) ?_
              haveI hsl : Sl (Gw eB ⟨x.1, mB i2 x.2.length, sx, mB i2 (x.2.length + k)⟩ :: Cl gwB (vs.take i2) :: Cl gwB (vs.drop (i2 + 1)) :: Row sg eSV (vs.map (·.g)) :: H) sx eB (mB i2 (x.2.length + k)) := gw_sl
              have hmk := mB_len i2 (x.2.length + k)
              refine w_skip (sq_n (w_seq (w_block (w_seq (w_region (?_))))))
              refine o_ev (ev_move rfl) rfl ?_
              refine o_ev (ev_assign rfl) rfl ?_
              refine o_nil (sq_n (w_seq (w_region (?_))))
              refine o_ev (ev_move rfl) rfl ?_
              refine o_ev (ev_move rfl) rfl ?_
              refine o_ev (ev_indexAddr rfl rfl i2 rfl (by omega)) rfl ?_
              refine o_ev (ev_load_el rfl (by rfl) (by rfl) sx hg1) rfl ?_
              refine o_ev (ev_len1 rfl) rfl ?_
              rw [hmk]
              refine o_ev (ev_assign rfl) rfl ?_
              refine o_nil (sq_n (?_))
              refine w_draw Tryz_mixed (fun i => [10, 11, 13].contains i) (fun k H => (k = 4 → Sl H sg eSV (vs.map (·.g))) ∧ (k = 5 → Sl H sg eSV (vs.map (·.g))) ∧ (k = 12 → Sl H sg eSV (vs.map (·.g)))) ?_
              refine an_first 0 rfl rfl (by kernel_rfl) rfl (Qv.of_ev (fun H hH => ev_move rfl)) ?_
              refine an_first 1 rfl rfl (by kernel_rfl) rfl (Qv.of_ev (fun H hH => ev_move rfl)) ?_
              refine an_first 2 rfl rfl (by kernel_rfl) rfl (Qv.of_ev (fun H hH => ev_move rfl)) ?_
              refine an_first 3 rfl rfl (by kernel_rfl) rfl (Qv.of_ev (fun H hH => ev_move rfl)) ?_
              refine an_first 4 rfl rfl (by kernel_rfl) rfl (Qv.of_ev (fun H hH => by have hN := hH.1 rfl; exact ev_indexAddr rfl rfl i2 rfl (by omega))) ?_
              refine an_first 5 rfl rfl (by kernel_rfl) rfl (Qv.of_ev (fun H hH => by have hN := hH.2.1 rfl; exact ev_load_el rfl (by rfl) (by rfl) sx hg1)) ?_
              refine an_first 6 rfl rfl (by kernel_rfl) rfl (Qv.of_ev (fun H hH => ev_move rfl)) ?_
              refine an_first 7 rfl rfl (by kernel_rfl) rfl (Qv.of_ev (fun H hH => ev_move rfl)) ?_
              refine an_first 8 rfl rfl (by kernel_rfl) rfl (fun H' _ => st_call (vs := [_, _]) rfl (markPr (i := i2) (j := x.2.length + k) (by omega) (by omega))) ?_
              refine an_first 9 rfl rfl (by kernel_rfl) rfl (Qv.of_ev (fun H hH => ev_convM 256 rfl rfl rfl (mkN i2 (x.2.length + k)) rfl)) ?_
              refine an_step 10 rfl (by kernel_rfl) rfl (fun k hk => ⟨fun hi => by subst hi; infer_instance, fun hi => by subst hi; infer_instance, fun hi => by subst hi; infer_instance⟩) (st_build1 eB rfl rfl) ?_
              rintro _ _ ⟨s3, rfl, rfl⟩
              refine an_step 11 rfl (by kernel_rfl) rfl (fun k hk => ⟨fun hi => by subst hi; infer_instance, fun hi => by subst hi; infer_instance, fun hi => by subst hi; infer_instance⟩) (st_append_gw (e := eB) (u := ⟨x.1, mB i2 x.2.length, sx, mB i2 (x.2.length + k)⟩) rfl rfl rfl rfl (by simp only [hmk, List.length_cons, List.length_nil]; omega) (by simp only [hmk, List.length_cons, List.length_nil]; omega)) ?_
              rintro _ _ ⟨s4, rfl, rfl⟩
              refine an_first 12 rfl rfl (by kernel_rfl) rfl (Qv.of_ev (fun H hH => by have hN := hH.2.2 rfl; exact ev_indexAddr rfl rfl i2 rfl (by omega))) ?_
              refine an_step 13 rfl (by kernel_rfl) rfl (fun k hk => ⟨fun hi => by subst hi; infer_instance, fun hi => absurd hk (by subst hi; exact not_live (by kernel_rfl)), fun hi => by subst hi; infer_instance⟩) (st_store_el (a := s4) rfl rfl (by rfl) (by omega)) ?_
              rintro _ _ ⟨rfl, rfl⟩
              refine an_nil (by kernel_rfl) (fun k hk => ⟨fun hi => absurd hk (by subst hi; exact not_live (by kernel_rfl)), fun hi => absurd hk (by subst hi; exact not_live (by kernel_rfl)), fun hi => absurd hk (by subst hi; exact not_live (by kernel_rfl))⟩) (bk_n (sq_n (w_region (?_))))
              refine o_ev (ev_add rfl rfl (by omega)) rfl ?_
              refine o_ev (ev_move rfl) rfl ?_
              refine o_nil (?_)
              skip
              refine lq_n ((vs.set i2 ⟨x.1, mB i2 x.2.length, s4, mB i2 (x.2.length + k) ++ [mkN i2 (x.2.length + k) % 256]⟩, i2 + 1)) ?_ ?_ ?_ ?_
              · (try dsimp only)
                refine ⟨by omega, by rw [List.length_set]; exact hvl, fun j y hy => ?_⟩
                by_cases hj : j = i2
                · subst hj
                  rw [hx] at hy; cases hy
                  exact ⟨s4, by rw [List.getElem?_set_self (by omega), if_pos (Nat.lt_succ_self _), ← mB_succ]; rfl⟩
                · obtain ⟨s, hs⟩ := hv j y hy
                  refine ⟨s, ?_⟩
                  rw [List.getElem?_set_ne (by omega), hs]
                  by_cases hj2 : j < i2
                  · rw [if_pos hj2, if_pos (by omega)]
                  · rw [if_neg hj2, if_neg (by omega)]
              · (try dsimp only)
                omega
              · repeat (first | exact Sub.nil | refine Sub.cons rfl ?_)
              · (try dsimp only)
                rw [List.map_set]
                exact HSub.trans (H' := Gw eB ⟨x.1, mB i2 x.2.length, s4, mB i2 (x.2.length + k) ++ [mkN i2 (x.2.length + k) % 256]⟩ :: Cl gwB (vs.take i2) :: Cl gwB (vs.drop (i2 + 1)) :: Row sg eSV ((vs.map (·.g)).set i2 s4) :: H) (by (repeat (first | exact Ka | refine Kb ?_ | refine Kc ?_ | refine Kf ?_ | refine Kd ?_ | refine Ke ?_ | refine Kh ?_ | refine Kg rfl ?_ | refine Ki ?_ | refine Kj ?_ | refine Kk ?_ | refine Kl ?_ | refine Km ?_ | refine Kn ?_ | refine Ko ?_))) (HSub.trans (cl_close (f := gwB) _ (by omega)) (by (repeat (first | exact Ka | refine Kb ?_ | refine Kc ?_ | refine Kf ?_ | refine Kd ?_ | refine Ke ?_ | refine Kh ?_ | refine Kg rfl ?_ | refine Ki ?_ | refine Kj ?_ | refine Kk ?_ | refine Kl ?_ | refine Km ?_ | refine Kn ?_ | refine Ko ?_))))
            · skip
              try simp only [Za, Zb, Zc, Zd, Ze, Zf, Zg, Zh] at h4
              obtain rfl : i2 = zs.length := by omega
              refine w_exit (sq_e (lq_e (bk_h (bk_n (sq_n (w_region (?_)))))))
              refine o_ev (ev_move rfl) rfl ?_
              refine o_ev (ev_add rfl rfl (by omega)) rfl ?_
              refine o_ev (ev_assign rfl) rfl ?_
              refine o_nil (?_)
              skip
              refine lq_n ((vs, k + 1)) ?_ ?_ ?_ ?_
              · (try dsimp only)
                refine ⟨by omega, hvl, fun j y hy => ?_⟩
                obtain ⟨s, hs⟩ := hv j y hy
                rw [if_pos (List.getElem?_eq_some_iff.1 hy).1] at hs
                exact ⟨s, hs⟩
              · (try dsimp only)
                omega
              · repeat (first | exact Sub.nil | refine Sub.cons rfl ?_)
              · (try dsimp only)
                (repeat (first | exact Ka | refine Kb ?_ | refine Kc ?_ | refine Kf ?_ | refine Kd ?_ | refine Ke ?_ | refine Kh ?_ | refine Kg rfl ?_ | refine Ki ?_ | refine Kj ?_ | refine Kk ?_ | refine Kl ?_ | refine Km ?_ | refine Kn ?_ | refine Ko ?_))
        · skip
          try simp only [Za, Zb, Zc, Zd, Ze, Zf, Zg, Zh] at h3
          obtain rfl : k = 80 := by omega
          have hgl : (us.map (·.g)).length = zs.length := by rw [List.length_map]; exact hul
          refine w_exit (sq_e (lq_e (bk_h (sq_n (w_seq (w_seq (w_region (?_))))))))
          refine o_ev (ev_move rfl) rfl ?_
          refine o_ev (ev_len1 rfl) rfl ?_
          refine o_ev (ev_move rfl) rfl ?_
          refine o_nil (sq_n (w_block (?_)))
          refine w_loop (Nat) (fun i => i ≤ zs.length) (fun i => [(0, sl.val), (65, sg.val), (66, .int .i64 ((zs.length : Nat) : Int)), (67, .int .i64 ((i : Nat) : Int))]) (fun _ => Row sg eSV (us.map (·.g)) :: Cl gwB us :: H) (fun i => zs.length - i) (0) ?_ ?_ ?_ ?_
          · (try dsimp only)
            exact Nat.zero_le _
          · rw [hgl]; repeat (first | exact Sub.nil | refine Sub.cons rfl ?_)
          · (try dsimp only)
            (repeat (first | exact Ka | refine Kb ?_ | refine Kc ?_ | refine Kf ?_ | refine Kd ?_ | refine Ke ?_ | refine Kh ?_ | refine Kg rfl ?_ | refine Ki ?_ | refine Kj ?_ | refine Kk ?_ | refine Kl ?_ | refine Km ?_ | refine Kn ?_ | refine Ko ?_))
          · rintro i3 hi3
            (try dsimp only at *)
            refine w_seq (w_region (?_))
            refine o_ev (ev_lss rfl rfl) rfl ?_
            refine o_nil (sq_n (w_seq (?_)))
            refine w_if rfl (fun h5 => ?_) (fun h5 => ?_)
            · skip
              try simp only [Za, Zb, Zc, Zd, Ze, Zf, Zg, Zh] at h5
              obtain ⟨x, hx⟩ : ∃ x, zs[i3]? = some x := ⟨_, List.getElem?_eq_getElem (by omega)⟩
              obtain ⟨sx, hsx⟩ := hu i3 x hx
              have hxl := hl x (List.mem_of_getElem? hx)
              have hx1 : (zs.map (·.1))[i3]? = some x.1 := by rw [List.getElem?_map, hx]; rfl
              have hg1 : (us.map (·.g))[i3]? = some sx := by rw [List.getElem?_map, hsx]; rfl
              have c1 : Sl (Cl gwB us :: H) sx eB (mB i3 (x.2.length + 80)) := cl_sl (f := gwB) hsx (fun R => gw_sl (R := R))
              have c2 : Sl (Cl gwB us :: H) x.1 eB (mB i3 x.2.length) := cl_sl (f := gwB) hsx (fun R => gw_old (R := R))
              haveI d1 : Sl (Row sg eSV (us.map (·.g)) :: Cl gwB us :: H) sx eB (mB i3 (x.2.length + 80)) := Sl.tail
              haveI d2 : Sl (Row sg eSV (us.map (·.g)) :: Cl gwB us :: H) x.1 eB (mB i3 x.2.length) := Sl.tail
              have hm1 := mB_len i3 (x.2.length + 80)
              have hm2 := mB_len i3 x.2.length
              refine w_skip (sq_n (w_seq (w_block (w_seq (w_region (?_))))))
              refine o_ev (ev_move rfl) rfl ?_
              refine o_ev (ev_indexAddr rfl rfl i3 rfl (by omega)) rfl ?_
              refine o_ev (ev_load_el rfl (by rfl) (by rfl) sx hg1) rfl ?_
              refine o_ev (ev_assign rfl) rfl ?_
              refine o_ev (ev_assign rfl) rfl ?_
              refine o_nil (sq_n (w_seq (w_region (?_))))
              refine o_ev (ev_move rfl) rfl ?_
              refine o_ev (ev_len1 rfl) rfl ?_
              refine o_ev (ev_move rfl) rfl ?_
              refine o_nil (sq_n (w_block (?_)))
              refine w_loop (Nat) (fun j => j ≤ x.2.length + 80) (fun j => [(0, sl.val), (10, .int .i64 ((i3 : Nat) : Int)), (11, sx.val), (65, sg.val), (66, .int .i64 ((zs.length : Nat) : Int)), (67, .int .i64 ((i3 : Nat) : Int)), (73, .int .i64 ((x.2.length + 80 : Nat) : Int)), (74, .int .i64 ((j : Nat) : Int))]) (fun _ => Row sg eSV (us.map (·.g)) :: Cl gwB us :: H) (fun j => x.2.length + 80 - j) (0) ?_ ?_ ?_ ?_
              · (try dsimp only)
                exact Nat.zero_le _
              · rw [hm1]; repeat (first | exact Sub.nil | refine Sub.cons rfl ?_)
              · (try dsimp only)
                (repeat (first | exact Ka | refine Kb ?_ | refine Kc ?_ | refine Kf ?_ | refine Kd ?_ | refine Ke ?_ | refine Kh ?_ | refine Kg rfl ?_ | refine Ki ?_ | refine Kj ?_ | refine Kk ?_ | refine Kl ?_ | refine Km ?_ | refine Kn ?_ | refine Ko ?_))
              · rintro j3 hj3
                (try dsimp only at *)
                refine w_seq (w_region (?_))
                refine o_ev (ev_lss rfl rfl) rfl ?_
                refine o_nil (sq_n (w_seq (?_)))
                refine w_if rfl (fun h6 => ?_) (fun h6 => ?_)
                · skip
                  try simp only [Za, Zb, Zc, Zd, Ze, Zf, Zg, Zh] at h6
                  refine w_skip (sq_n (w_seq (w_block (w_seq (w_region (?_))))))
                  refine o_ev (ev_move rfl) rfl ?_
                  refine o_ev (ev_assign rfl) rfl ?_
                  refine o_nil (sq_n (w_seq (w_seq (?_))))
                  refine w_still Tryz_mixed ?_
                  refine an_first 0 rfl rfl (by kernel_rfl) rfl (qv_at (ev_move rfl)) ?_
                  refine an_first 1 rfl rfl (by kernel_rfl) rfl (qv_at (ev_move rfl)) ?_
                  refine an_first 2 rfl rfl (by kernel_rfl) rfl (qv_at (ev_indexAddr rfl rfl j3 rfl (by omega))) ?_
                  refine an_first 3 rfl rfl (by kernel_rfl) rfl (qv_at (ev_load_el rfl (by rfl) (by rfl) (mkN i3 (j3) % 256) (mB_get (by omega)))) ?_
                  refine an_first 4 rfl rfl (by kernel_rfl) rfl (qv_at (ev_move rfl)) ?_
                  refine an_first 5 rfl rfl (by kernel_rfl) rfl (qv_at (ev_move rfl)) ?_
                  refine an_first 6 rfl rfl (by kernel_rfl) rfl (qv_call (vs := [_, _]) rfl (markPr (i := i3) (j := j3) (by omega) (by omega))) ?_
                  refine an_first 7 rfl rfl (by kernel_rfl) rfl (qv_at (ev_convM 256 rfl rfl rfl (mkN i3 (j3)) rfl)) ?_
                  refine an_first 8 rfl rfl (by kernel_rfl) rfl (qv_at (ev_neq rfl rfl)) ?_
                  refine an_nil (by kernel_rfl) (fun _ _ => rfl) (sq_n (?_))
                  refine w_if rfl (fun h7 => ?_) (fun h7 => ?_)
                  · skip
                    try simp only [Za, Zb, Zc, Zd, Ze, Zf, Zg, Zh] at h7
                    exact absurd h7 (by simp) -- DONE
                  · skip
                    try simp only [Za, Zb, Zc, Zd, Ze, Zf, Zg, Zh] at h7
                    refine w_skip (sq_n (w_seq (?_)))
                    refine w_still Tryz_mixed ?_
                    refine an_first 0 rfl rfl (by kernel_rfl) rfl (qv_at (ev_move rfl)) ?_
                    refine an_first 1 rfl rfl (by kernel_rfl) rfl (qv_at (ev_move rfl)) ?_
                    refine an_first 2 rfl rfl (by kernel_rfl) rfl (qv_at (ev_move rfl)) ?_
                    refine an_first 3 rfl rfl (by kernel_rfl) rfl (qv_at (ev_indexAddr rfl rfl i3 rfl (by omega))) ?_
                    refine an_first 4 rfl rfl (by kernel_rfl) rfl (qv_at (ev_load_el rfl (by rfl) (by rfl) x.1 hx1)) ?_
                    refine an_first 5 rfl rfl (by kernel_rfl) rfl (qv_at (ev_len1 rfl)) ?_
                    refine an_first 6 rfl rfl (by kernel_rfl) rfl (qv_at (ev_lss rfl rfl)) ?_
                    refine an_split 7 rfl rfl (by kernel_rfl) rfl (qv_at (ev_move rfl)) (fun h8 => ?_) (fun h8 => ?_)
                    · skip
                      try simp only [Za, Zb, Zc, Zd, Ze, Zf, Zg, Zh] at h8
                      refine an_on 8 rfl rfl rfl rfl (by kernel_rfl) rfl (qv_at (ev_move rfl)) ?_
                      refine an_on 9 rfl rfl rfl rfl (by kernel_rfl) rfl (qv_at (ev_move rfl)) ?_
                      refine an_on 10 rfl rfl rfl rfl (by kernel_rfl) rfl (qv_at (ev_indexAddr rfl rfl i3 rfl (by omega))) ?_
                      refine an_on 11 rfl rfl rfl rfl (by kernel_rfl) rfl (qv_at (ev_load_el rfl (by rfl) (by rfl) x.1 hx1)) ?_
                      refine an_on 12 rfl rfl rfl rfl (by kernel_rfl) rfl (qv_at (ev_move rfl)) ?_
                      refine an_on 13 rfl rfl rfl rfl (by kernel_rfl) rfl (qv_at (ev_indexAddr rfl rfl j3 rfl (by omega))) ?_
                      refine an_on 14 rfl rfl rfl rfl (by kernel_rfl) rfl (qv_at (ev_load_el rfl (by rfl) (by rfl) (mkN i3 (j3) % 256) (mB_get (by omega)))) ?_
                      refine an_on 15 rfl rfl rfl rfl (by kernel_rfl) rfl (qv_at (ev_move rfl)) ?_
                      refine an_on 16 rfl rfl rfl rfl (by kernel_rfl) rfl (qv_at (ev_move rfl)) ?_
                      refine an_on 17 rfl rfl rfl rfl (by kernel_rfl) rfl (qv_at (ev_indexAddr rfl rfl j3 rfl (by omega))) ?_
                      refine an_on 18 rfl rfl rfl rfl (by kernel_rfl) rfl (qv_at (ev_load_el rfl (by rfl) (by rfl) (mkN i3 (j3) % 256) (mB_get (by omega)))) ?_
                      refine an_on 19 rfl rfl rfl rfl (by kernel_rfl) rfl (qv_at (ev_neq rfl rfl)) ?_
                      refine an_first 20 rfl rfl (by kernel_rfl) rfl (qv_at (ev_pick_t rfl rfl)) ?_
                      refine an_nil (by kernel_rfl) (fun _ _ => rfl) (sq_n (?_))
                      refine w_if rfl (fun h9 => ?_) (fun h9 => ?_)
                      · skip
                        try simp only [Za, Zb, Zc, Zd, Ze, Zf, Zg, Zh] at h9
                        exact absurd h9 (by simp) -- DONE
                      · skip
                        try simp only [Za, Zb, Zc, Zd, Ze, Zf, Zg, Zh] at h9
                        refine w_skip (bk_n (sq_n (w_region (?_))))
                        refine o_ev (ev_add rfl rfl (by omega)) rfl ?_
                        refine o_ev (ev_move rfl) rfl ?_
                        refine o_nil (?_)
                        skip
                        refine lq_n (j3 + 1) ?_ ?_ ?_ ?_
                        · (try dsimp only)
                          omega
                        · (try dsimp only)
                          omega
                        · repeat (first | exact Sub.nil | refine Sub.cons rfl ?_)
                        · (try dsimp only)
                          (repeat (first | exact Ka | refine Kb ?_ | refine Kc ?_ | refine Kf ?_ | refine Kd ?_ | refine Ke ?_ | refine Kh ?_ | refine Kg rfl ?_ | refine Ki ?_ | refine Kj ?_ | refine Kk ?_ | refine Kl ?_ | refine Km ?_ | refine Kn ?_ | refine Ko ?_))
                    · skip
                      try simp only [Za, Zb, Zc, Zd, Ze, Zf, Zg, Zh] at h8
                      refine an_off 8 rfl rfl rfl rfl (by kernel_rfl) rfl ?_
                      refine an_off 9 rfl rfl rfl rfl (by kernel_rfl) rfl ?_
                      refine an_off 10 rfl rfl rfl rfl (by kernel_rfl) rfl ?_
                      refine an_off 11 rfl rfl rfl rfl (by kernel_rfl) rfl ?_
                      refine an_off 12 rfl rfl rfl rfl (by kernel_rfl) rfl ?_
                      refine an_off 13 rfl rfl rfl rfl (by kernel_rfl) rfl ?_
                      refine an_off 14 rfl rfl rfl rfl (by kernel_rfl) rfl ?_
                      refine an_off 15 rfl rfl rfl rfl (by kernel_rfl) rfl ?_
                      refine an_off 16 rfl rfl rfl rfl (by kernel_rfl) rfl ?_
                      refine an_off 17 rfl rfl rfl rfl (by kernel_rfl) rfl ?_
                      refine an_off 18 rfl rfl rfl rfl (by kernel_rfl) rfl ?_
                      refine an_off 19 rfl rfl rfl rfl (by kernel_rfl) rfl ?_
                      refine an_first 20 rfl rfl (by kernel_rfl) rfl (qv_at (ev_pick_f rfl rfl)) ?_
                      refine an_nil (by kernel_rfl) (fun _ _ => rfl) (sq_n (?_))
                      refine w_if_false rfl (w_skip (bk_n (sq_n (w_region (?_)))))
                      refine o_ev (ev_add rfl rfl (by omega)) rfl ?_
                      refine o_ev (ev_move rfl) rfl ?_
                      refine o_nil (?_)
                      skip
                      refine lq_n (j3 + 1) ?_ ?_ ?_ ?_
                      · (try dsimp only)
                        omega
                      · (try dsimp only)
                        omega
                      · repeat (first | exact Sub.nil | refine Sub.cons rfl ?_)
                      · (try dsimp only)
                        (repeat (first | exact Ka | refine Kb ?_ | refine Kc ?_ | refine Kf ?_ | refine Kd ?_ | refine Ke ?_ | refine Kh ?_ | refine Kg rfl ?_ | refine Ki ?_ | refine Kj ?_ | refine Kk ?_ | refine Kl ?_ | refine Km ?_ | refine Kn ?_ | refine Ko ?_))
                · skip
                  try simp only [Za, Zb, Zc, Zd, Ze, Zf, Zg, Zh] at h6
                  refine w_exit (sq_e (lq_e (bk_h (bk_n (sq_n (w_region (?_)))))))
                  refine o_ev (ev_add rfl rfl (by omega)) rfl ?_
                  refine o_ev (ev_move rfl) rfl ?_
                  refine o_nil (?_)
                  skip
                  refine lq_n (i3 + 1) ?_ ?_ ?_ ?_
                  · (try dsimp only)
                    omega
                  · (try dsimp only)
                    omega
                  · repeat (first | exact Sub.nil | refine Sub.cons rfl ?_)
                  · (try dsimp only)
                    (repeat (first | exact Ka | refine Kb ?_ | refine Kc ?_ | refine Kf ?_ | refine Kd ?_ | refine Ke ?_ | refine Kh ?_ | refine Kg rfl ?_ | refine Ki ?_ | refine Kj ?_ | refine Kk ?_ | refine Kl ?_ | refine Km ?_ | refine Kn ?_ | refine Ko ?_))
            · skip
              try simp only [Za, Zb, Zc, Zd, Ze, Zf, Zg, Zh] at h5
              refine w_exit (sq_e (lq_e (bk_h (sq_n (w_seq (w_region (?_)))))))
              refine o_ev (ev_assign rfl) rfl ?_
              refine o_nil (sq_n (w_ret (?_)))
              refine res_intro (vs := [_]) Tryz.results21 (.inr rfl) (.cons (.tmp rfl) (.nil)) ?_
              refine ⟨Cl rwB (us.map fun u => (u.s, u.xs)) :: H, HSub.trans (H' := Cl gwB us :: H) (by (repeat (first | exact Ka | refine Kb ?_ | refine Kc ?_ | refine Kf ?_ | refine Kd ?_ | refine Ke ?_ | refine Kh ?_ | refine Kg rfl ?_ | refine Ki ?_ | refine Kj ?_ | refine Kk ?_ | refine Kl ?_ | refine Km ?_ | refine Kn ?_ | refine Ko ?_))) (cl_map (f := gwB) (g := rwB) (u := fun u => (u.s, u.xs)) fun u _ => gw_end (x := u)), rfl, _, by rw [List.length_map]; exact hul, fun j x hx => ?_, rfl⟩
              obtain ⟨s, hs⟩ := hu j x hx
              rw [List.getElem?_map, hs]; rfl
end Go.Sx
