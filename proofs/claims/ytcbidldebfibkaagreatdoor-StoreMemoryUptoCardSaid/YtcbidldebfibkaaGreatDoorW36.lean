import Derived.Test.YtcbidldebfibkaaGreatDoorW35
set_option linter.unusedVariables false
set_option linter.unusedSimpArgs false
set_option linter.unusedSectionVars false
set_option linter.unnecessarySimpa false
namespace Go.Sx
open Go Go.Proofs
set_option maxRecDepth 100000
set_option linter.unusedSimpArgs false
set_option linter.unusedVariables false

/-! ## Writing over an index -/
def zzF : FV := ⟨⟨#[122, 122]⟩, 99, false, false, false⟩
theorem zz_size : zzF.name.size ≤ 1000000000000 := by decide
theorem set_rep {α β : Type} {xs : List α} {z : α} {i : Nat} (ys : List β) (h : ∃ b, ys[i]? = some b) (hl : xs.length = ys.length) (hx : ∀ j, j < i → xs[j]? = some z) : ∀ j, j < i + 1 → (xs.set i z)[j]? = some z := by
  intro j hj
  obtain ⟨b, hb⟩ := h
  have := (List.getElem?_eq_some_iff.1 hb).1
  rcases Nat.lt_or_eq_of_le (Nat.le_of_lt_succ hj) with h | rfl
  · rw [List.getElem?_set_ne (by omega)]; exact hx j h
  · rw [List.getElem?_set_self (by omega)]
theorem set_all {α : Type} {p : α → Prop} {xs : List α} {i : Nat} {a : α} (h : ∀ x ∈ xs, p x) (ha : p a) : ∀ x ∈ xs.set i a, p x := by
  intro x hx
  rcases List.mem_or_eq_of_mem_set hx with hx | rfl
  · exact h x hx
  · exact ha
theorem eq_rep {α : Type} {xs : List α} {z : α} {n : Nat} (hl : xs.length = n) (h : ∀ j, j < n → xs[j]? = some z) : xs = List.replicate n z := by
  apply List.ext_getElem?
  intro j
  by_cases hj : j < n
  · rw [h j hj, List.getElem?_replicate, if_pos hj]
  · rw [List.getElem?_eq_none (by omega), List.getElem?_eq_none (by simp; omega)]
instance : EncV eP (.agg [.slice none 0 0, .slice none 0 0].toArray) (SV.nil, SV.nil) := ⟨rfl⟩
theorem cl_head {H : Heap} {ι : Type} {f : ι → Heap} {l : List ι} {i : Nat} {x : ι} (h : l[i]? = some x) : HSub (Cl f (l.drop i) :: H) (f x ++ (Cl f (l.drop (i + 1)) :: H)) := by
  have hi := (List.getElem?_eq_some_iff.1 h).1
  rw [List.drop_eq_getElem_cons hi, (List.getElem?_eq_some_iff.1 h).2]
  have := cl_open (H := H) (f := f) (l := x :: l.drop (i + 1)) (i := 0) (x := x) rfl
  rw [List.take_zero, List.drop_succ_cons, List.drop_zero] at this
  refine this.trans ?_
  have h3 : ∀ A B C : Heap, HSub B C → HSub (A ++ B) (A ++ C) := by
    intro A B C hBC
    induction A with
    | nil => exact hBC
    | cons a A ih => exact HSub.keep ih
  exact h3 _ _ _ (Ko Ka)

theorem spoilOk {G : Base} {H : Heap} {sf sp : SV} {fs : List FV} {lp : List (SV × SV)} {ps : Pcs} {n : Int} (hl : lp.length = ps.length) (hf : ∀ f ∈ fs, f.name.size ≤ 1000000000000) (hn : fs.length ≤ 1000000000) (hpl : ps.length ≤ 100000000) (hk : OkPs ps) :
    SC G Tryz.prog 20 [.agg [sf.val, .int .i64 n, sp.val].toArray] (Row sf eF fs :: Row sp eP lp :: Cl pcF (lp.zip ps) :: H) (fun _ H' => ∃ fs', fs'.length = fs.length ∧ (∀ f ∈ fs', f.name.size ≤ 1000000000000) ∧ H' = Row sf eF fs' :: Row sp eP (List.replicate lp.length (SV.nil, SV.nil)) :: H) := by
  refine SC.out (sc_walk Tryz.func20 rfl Tryz.ntmps20 (by kernel_rfl) (Nat.le_of_ble_eq_true rfl) ?_)
  refine w_seq (w_region (?_))
  refine o_st (st_box rfl) rfl ?_
  rintro _ _ ⟨b1, rfl, rfl⟩
  refine o_nil (sq_n (w_seq (w_seq (w_region (?_)))))
  refine o_ev (ev_fieldAddr rfl) rfl ?_
  refine o_ev (ev_fieldAddr rfl) rfl ?_
  refine o_ev (ev_load rfl) rfl ?_
  refine o_ev (ev_len1 rfl) rfl ?_
  refine o_ev (ev_move rfl) rfl ?_
  refine o_nil (sq_n (w_block (?_)))
  refine w_loop (List FV × Nat) (fun y => y.2 ≤ fs.length ∧ y.1.length = fs.length ∧ ∀ f ∈ y.1, f.name.size ≤ 1000000000000) (fun y => [(1, .pointer (some ⟨b1, 0, none⟩)), (9, .int .i64 ((fs.length : Nat) : Int)), (10, .int .i64 ((y.2 : Nat) : Int))]) (fun y => Vr b1 [sf.val, .int .i64 n, sp.val] :: Row sf eF y.1 :: Row sp eP lp :: Cl pcF (lp.zip ps) :: H) (fun y => fs.length - y.2) ((fs, 0)) ?_ ?_ ?_ ?_
  · (try dsimp only)
    exact ⟨Nat.zero_le _, rfl, hf⟩
  · repeat (first | exact Sub.nil | refine Sub.cons rfl ?_)
  · (try dsimp only)
    (repeat (first | exact Ka | refine Kb ?_ | refine Kc ?_ | refine Kf ?_ | refine Kd ?_ | refine Ke ?_ | refine Kh ?_ | refine Kg rfl ?_ | refine Ki ?_ | refine Kj ?_ | refine Kk ?_ | refine Kl ?_ | refine Km ?_ | refine Kn ?_ | refine Ko ?_))
  · rintro ⟨gs, i⟩ ⟨hi, hgl, hgf⟩
    (try dsimp only at *)
    refine w_seq (w_region (?_))
    refine o_ev (ev_lss rfl rfl) rfl ?_
    refine o_nil (sq_n (w_seq (?_)))
    refine w_if rfl (fun h1 => ?_) (fun h1 => ?_)
    · skip
      try simp only [Za, Zb, Zc, Zd, Ze, Zf, Zg, Zh] at h1
      refine w_skip (sq_n (w_seq (w_block (w_seq (w_region (?_))))))
      refine o_ev (ev_move rfl) rfl ?_
      refine o_ev (ev_assign rfl) rfl ?_
      refine o_nil (sq_n (w_region (?_)))
      refine o_ev (ev_fieldAddr rfl) rfl ?_
      refine o_ev (ev_fieldAddr rfl) rfl ?_
      refine o_ev (ev_load rfl) rfl ?_
      refine o_ev (ev_move rfl) rfl ?_
      refine o_ev (ev_build (vs := [(0, _), (1, _)]) rfl) rfl ?_
      refine o_ev (ev_indexAddr rfl rfl i rfl (by omega)) rfl ?_
      refine o_st (st_store_el rfl rfl (by rfl) (by omega)) rfl ?_
      rintro _ _ ⟨rfl, rfl⟩
      refine o_nil (bk_n (sq_n (w_region (?_))))
      refine o_ev (ev_add rfl rfl (by omega)) rfl ?_
      refine o_ev (ev_move rfl) rfl ?_
      refine o_nil (?_)
      skip
      refine lq_n ((gs.set i zzF, i + 1)) ?_ ?_ ?_ ?_
      · (try dsimp only)
        exact ⟨by omega, by rw [List.length_set]; exact hgl, set_all hgf zz_size⟩
      · (try dsimp only)
        omega
      · repeat (first | exact Sub.nil | refine Sub.cons rfl ?_)
      · (try dsimp only)
        (repeat (first | exact Ka | refine Kb ?_ | refine Kc ?_ | refine Kf ?_ | refine Kd ?_ | refine Ke ?_ | refine Kh ?_ | refine Kg rfl ?_ | refine Ki ?_ | refine Kj ?_ | refine Kk ?_ | refine Kl ?_ | refine Km ?_ | refine Kn ?_ | refine Ko ?_))
    · skip
      try simp only [Za, Zb, Zc, Zd, Ze, Zf, Zg, Zh] at h1
      refine w_exit (sq_e (lq_e (bk_h (sq_n (w_seq (w_region (?_)))))))
      refine o_ev (ev_fieldAddr rfl) rfl ?_
      refine o_ev (ev_load rfl) rfl ?_
      refine o_ev (ev_len1 rfl) rfl ?_
      refine o_ev (ev_move rfl) rfl ?_
      refine o_nil (sq_n (w_block (?_)))
      refine w_loop (List (SV × SV) × Nat) (fun y => y.2 ≤ lp.length ∧ y.1.length = lp.length ∧ (∀ j, j < y.2 → y.1[j]? = some (SV.nil, SV.nil)) ∧ ∀ j, y.2 ≤ j → y.1[j]? = lp[j]?) (fun y => [(1, .pointer (some ⟨b1, 0, none⟩)), (22, .int .i64 ((lp.length : Nat) : Int)), (23, .int .i64 ((y.2 : Nat) : Int))]) (fun y => Vr b1 [sf.val, .int .i64 n, sp.val] :: Row sf eF gs :: Row sp eP y.1 :: Cl pcF ((lp.zip ps).drop y.2) :: H) (fun y => lp.length - y.2) ((lp, 0)) ?_ ?_ ?_ ?_
      · (try dsimp only)
        exact ⟨Nat.zero_le _, rfl, fun j h => absurd h (Nat.not_lt_zero _), fun _ _ => rfl⟩
      · repeat (first | exact Sub.nil | refine Sub.cons rfl ?_)
      · (try dsimp only)
        (repeat (first | exact Ka | refine Kb ?_ | refine Kc ?_ | refine Kf ?_ | refine Kd ?_ | refine Ke ?_ | refine Kh ?_ | refine Kg rfl ?_ | refine Ki ?_ | refine Kj ?_ | refine Kk ?_ | refine Kl ?_ | refine Km ?_ | refine Kn ?_ | refine Ko ?_))
      · rintro ⟨lq, k⟩ ⟨hk2, hql, hq0, hq1⟩
        (try dsimp only at *)
        refine w_seq (w_region (?_))
        refine o_ev (ev_lss rfl rfl) rfl ?_
        refine o_nil (sq_n (w_seq (?_)))
        refine w_if rfl (fun h2 => ?_) (fun h2 => ?_)
        · skip
          try simp only [Za, Zb, Zc, Zd, Ze, Zf, Zg, Zh] at h2
          obtain ⟨p, hp⟩ : ∃ p, lp[k]? = some p := ⟨_, List.getElem?_eq_getElem (by omega)⟩
          obtain ⟨q, hq⟩ : ∃ q, ps[k]? = some q := ⟨_, List.getElem?_eq_getElem (by omega)⟩
          have hp' : lq[k]? = some p := (hq1 k (Nat.le_refl _)).trans hp
          have hz : (lp.zip ps)[k]? = some (p, q) := by rw [List.getElem?_zip_eq_some]; exact ⟨hp, hq⟩
          obtain ⟨o1, o2, o3, o4⟩ := hk q (List.mem_of_getElem? hq)
          refine w_hsub (H' := Row p.1 eB q.1 :: Row p.2 eI q.2 :: Cl pcF ((lp.zip ps).drop (k + 1)) :: Vr b1 [sf.val, .int .i64 n, sp.val] :: Row sf eF gs :: Row sp eP lq :: H) (HSub.trans (H' := Cl pcF ((lp.zip ps).drop k) :: Vr b1 [sf.val, .int .i64 n, sp.val] :: Row sf eF gs :: Row sp eP lq :: H) (by (repeat (first | exact Ka | refine Kb ?_ | refine Kc ?_ | refine Kf ?_ | refine Kd ?_ | refine Ke ?_ | refine Kh ?_ | refine Kg rfl ?_ | refine Ki ?_ | refine Kj ?_ | refine Kk ?_ | refine Kl ?_ | refine Km ?_ | refine Kn ?_ | refine Ko ?_))) (cl_head hz)) ?_
          refine w_skip (sq_n (w_seq (w_block (w_seq (w_region (?_))))))
          refine o_ev (ev_move rfl) rfl ?_
          refine o_ev (ev_assign rfl) rfl ?_
          refine o_nil (sq_n (w_seq (w_seq (w_region (?_)))))
          refine o_ev (ev_fieldAddr rfl) rfl ?_
          refine o_ev (ev_load rfl) rfl ?_
          refine o_ev (ev_move rfl) rfl ?_
          refine o_ev (ev_indexAddr rfl rfl k rfl (by omega)) rfl ?_
          refine o_ev (ev_fieldAddr_elt rfl (by omega)) rfl ?_
          refine o_ev (ev_load_fl rfl (by rfl) p hp' (by rfl)) rfl ?_
          refine o_ev (ev_len1 rfl) rfl ?_
          refine o_ev (ev_move rfl) rfl ?_
          refine o_nil (sq_n (w_block (?_)))
          refine w_loop (List Nat × Nat) (fun y => y.2 ≤ q.1.length ∧ y.1.length = q.1.length ∧ ∀ x ∈ y.1, x < 256) (fun y => [(1, .pointer (some ⟨b1, 0, none⟩)), (3, .int .i64 ((k : Nat) : Int)), (22, .int .i64 ((lp.length : Nat) : Int)), (23, .int .i64 ((k : Nat) : Int)), (32, .int .i64 ((q.1.length : Nat) : Int)), (33, .int .i64 ((y.2 : Nat) : Int))]) (fun y => Row p.1 eB y.1 :: Row p.2 eI q.2 :: Cl pcF ((lp.zip ps).drop (k + 1)) :: Vr b1 [sf.val, .int .i64 n, sp.val] :: Row sf eF gs :: Row sp eP lq :: H) (fun y => q.1.length - y.2) ((q.1, 0)) ?_ ?_ ?_ ?_
          · (try dsimp only)
            exact ⟨Nat.zero_le _, rfl, o1⟩
          · repeat (first | exact Sub.nil | refine Sub.cons rfl ?_)
          · (try dsimp only)
            (repeat (first | exact Ka | refine Kb ?_ | refine Kc ?_ | refine Kf ?_ | refine Kd ?_ | refine Ke ?_ | refine Kh ?_ | refine Kg rfl ?_ | refine Ki ?_ | refine Kj ?_ | refine Kk ?_ | refine Kl ?_ | refine Km ?_ | refine Kn ?_ | refine Ko ?_))
          · rintro ⟨xs, j⟩ ⟨hj, hxl, hxb⟩
            (try dsimp only at *)
            refine w_seq (w_region (?_))
            refine o_ev (ev_lss rfl rfl) rfl ?_
            refine o_nil (sq_n (w_seq (?_)))
            refine w_if rfl (fun h3 => ?_) (fun h3 => ?_)
            · skip
              try simp only [Za, Zb, Zc, Zd, Ze, Zf, Zg, Zh] at h3
              obtain ⟨x, hx⟩ : ∃ x, xs[j]? = some x := ⟨_, List.getElem?_eq_getElem (by omega)⟩
              have hx2 := hxb x (List.mem_of_getElem? hx)
              refine w_skip (sq_n (w_seq (w_block (w_seq (w_region (?_))))))
              refine o_ev (ev_move rfl) rfl ?_
              refine o_ev (ev_assign rfl) rfl ?_
              refine o_nil (sq_n (w_region (?_)))
              refine o_ev (ev_fieldAddr rfl) rfl ?_
              refine o_ev (ev_load rfl) rfl ?_
              refine o_ev (ev_move rfl) rfl ?_
              refine o_ev (ev_indexAddr rfl rfl k rfl (by omega)) rfl ?_
              refine o_ev (ev_fieldAddr_elt rfl (by omega)) rfl ?_
              refine o_ev (ev_load_fl rfl (by rfl) p hp' (by rfl)) rfl ?_
              refine o_ev (ev_move rfl) rfl ?_
              refine o_ev (ev_indexAddr rfl rfl j rfl (by omega)) rfl ?_
              refine o_ev (ev_load_el rfl (by rfl) (by rfl) x hx) rfl ?_
              refine o_ev (ev_xorM 256 rfl rfl rfl rfl x 85 rfl rfl hx2 (by decide)) rfl ?_
              refine o_ev (ev_indexAddr rfl rfl j rfl (by omega)) rfl ?_
              refine o_st (st_store_el rfl rfl (by rfl) (by omega)) rfl ?_
              rintro _ _ ⟨rfl, rfl⟩
              refine o_nil (bk_n (sq_n (w_region (?_))))
              refine o_ev (ev_add rfl rfl (by omega)) rfl ?_
              refine o_ev (ev_move rfl) rfl ?_
              refine o_nil (?_)
              skip
              refine lq_n ((xs.set j (x ^^^ 85), j + 1)) ?_ ?_ ?_ ?_
              · (try dsimp only)
                exact ⟨by omega, by rw [List.length_set]; exact hxl, set_all hxb (Nat.xor_lt_two_pow (n := 8) hx2 (by decide))⟩
              · (try dsimp only)
                omega
              · repeat (first | exact Sub.nil | refine Sub.cons rfl ?_)
              · (try dsimp only)
                (repeat (first | exact Ka | refine Kb ?_ | refine Kc ?_ | refine Kf ?_ | refine Kd ?_ | refine Ke ?_ | refine Kh ?_ | refine Kg rfl ?_ | refine Ki ?_ | refine Kj ?_ | refine Kk ?_ | refine Kl ?_ | refine Km ?_ | refine Kn ?_ | refine Ko ?_))
            · skip
              try simp only [Za, Zb, Zc, Zd, Ze, Zf, Zg, Zh] at h3
              refine w_exit (sq_e (lq_e (bk_h (sq_n (w_seq (w_seq (w_region (?_))))))))
              refine o_ev (ev_fieldAddr rfl) rfl ?_
              refine o_ev (ev_load rfl) rfl ?_
              refine o_ev (ev_move rfl) rfl ?_
              refine o_ev (ev_indexAddr rfl rfl k rfl (by omega)) rfl ?_
              refine o_ev (ev_fieldAddr_elt rfl (by omega)) rfl ?_
              refine o_ev (ev_load_fl rfl (by rfl) p hp' (by rfl)) rfl ?_
              refine o_ev (ev_len1 rfl) rfl ?_
              refine o_ev (ev_move rfl) rfl ?_
              refine o_nil (sq_n (w_block (?_)))
              refine w_loop (List Int × Nat) (fun y => y.2 ≤ q.2.length ∧ y.1.length = q.2.length) (fun y => [(1, .pointer (some ⟨b1, 0, none⟩)), (3, .int .i64 ((k : Nat) : Int)), (22, .int .i64 ((lp.length : Nat) : Int)), (23, .int .i64 ((k : Nat) : Int)), (54, .int .i64 ((q.2.length : Nat) : Int)), (55, .int .i64 ((y.2 : Nat) : Int))]) (fun y => Row p.2 eI y.1 :: Cl pcF ((lp.zip ps).drop (k + 1)) :: Vr b1 [sf.val, .int .i64 n, sp.val] :: Row sf eF gs :: Row sp eP lq :: H) (fun y => q.2.length - y.2) ((q.2, 0)) ?_ ?_ ?_ ?_
              · (try dsimp only)
                exact ⟨Nat.zero_le _, rfl⟩
              · repeat (first | exact Sub.nil | refine Sub.cons rfl ?_)
              · (try dsimp only)
                (repeat (first | exact Ka | refine Kb ?_ | refine Kc ?_ | refine Kf ?_ | refine Kd ?_ | refine Ke ?_ | refine Kh ?_ | refine Kg rfl ?_ | refine Ki ?_ | refine Kj ?_ | refine Kk ?_ | refine Kl ?_ | refine Km ?_ | refine Kn ?_ | refine Ko ?_))
              · rintro ⟨ys, i2⟩ ⟨hi2, hyl⟩
                (try dsimp only at *)
                refine w_seq (w_region (?_))
                refine o_ev (ev_lss rfl rfl) rfl ?_
                refine o_nil (sq_n (w_seq (?_)))
                refine w_if rfl (fun h4 => ?_) (fun h4 => ?_)
                · skip
                  try simp only [Za, Zb, Zc, Zd, Ze, Zf, Zg, Zh] at h4
                  refine w_skip (sq_n (w_seq (w_block (w_seq (w_region (?_))))))
                  refine o_ev (ev_move rfl) rfl ?_
                  refine o_ev (ev_assign rfl) rfl ?_
                  refine o_nil (sq_n (w_region (?_)))
                  refine o_ev (ev_fieldAddr rfl) rfl ?_
                  refine o_ev (ev_load rfl) rfl ?_
                  refine o_ev (ev_move rfl) rfl ?_
                  refine o_ev (ev_indexAddr rfl rfl k rfl (by omega)) rfl ?_
                  refine o_ev (ev_fieldAddr_elt rfl (by omega)) rfl ?_
                  refine o_ev (ev_load_fl rfl (by rfl) p hp' (by rfl)) rfl ?_
                  refine o_ev (ev_move rfl) rfl ?_
                  refine o_ev (ev_indexAddr rfl rfl i2 rfl (by omega)) rfl ?_
                  refine o_st (st_store_el (a := (-7 : Int)) rfl rfl (by rfl) (by omega)) rfl ?_
                  rintro _ _ ⟨rfl, rfl⟩
                  refine o_nil (bk_n (sq_n (w_region (?_))))
                  refine o_ev (ev_add rfl rfl (by omega)) rfl ?_
                  refine o_ev (ev_move rfl) rfl ?_
                  refine o_nil (?_)
                  skip
                  refine lq_n ((ys.set i2 (-7), i2 + 1)) ?_ ?_ ?_ ?_
                  · (try dsimp only)
                    exact ⟨by omega, by rw [List.length_set]; exact hyl⟩
                  · (try dsimp only)
                    omega
                  · repeat (first | exact Sub.nil | refine Sub.cons rfl ?_)
                  · (try dsimp only)
                    (repeat (first | exact Ka | refine Kb ?_ | refine Kc ?_ | refine Kf ?_ | refine Kd ?_ | refine Ke ?_ | refine Kh ?_ | refine Kg rfl ?_ | refine Ki ?_ | refine Kj ?_ | refine Kk ?_ | refine Kl ?_ | refine Km ?_ | refine Kn ?_ | refine Ko ?_))
                · skip
                  try simp only [Za, Zb, Zc, Zd, Ze, Zf, Zg, Zh] at h4
                  refine w_exit (sq_e (lq_e (bk_h (sq_n (w_region (?_))))))
                  refine o_ev (ev_fieldAddr rfl) rfl ?_
                  refine o_ev (ev_load rfl) rfl ?_
                  refine o_ev (ev_move rfl) rfl ?_
                  refine o_ev (ev_build (vs := []) rfl) rfl ?_
                  refine o_ev (ev_indexAddr rfl rfl k rfl (by omega)) rfl ?_
                  refine o_st (st_store_el (a := (SV.nil, SV.nil)) rfl rfl (by rfl) (by omega)) rfl ?_
                  rintro _ _ ⟨rfl, rfl⟩
                  refine o_nil (bk_n (sq_n (w_region (?_))))
                  refine o_ev (ev_add rfl rfl (by omega)) rfl ?_
                  refine o_ev (ev_move rfl) rfl ?_
                  refine o_nil (?_)
                  skip
                  refine lq_n ((lq.set k (SV.nil, SV.nil), k + 1)) ?_ ?_ ?_ ?_
                  · (try dsimp only)
                    exact ⟨by omega, by rw [List.length_set]; exact hql, set_rep lp ⟨p, hp⟩ hql hq0, fun j hj => by rw [List.getElem?_set_ne (by omega)]; exact hq1 j (by omega)⟩
                  · (try dsimp only)
                    omega
                  · repeat (first | exact Sub.nil | refine Sub.cons rfl ?_)
                  · (try dsimp only)
                    (repeat (first | exact Ka | refine Kb ?_ | refine Kc ?_ | refine Kf ?_ | refine Kd ?_ | refine Ke ?_ | refine Kh ?_ | refine Kg rfl ?_ | refine Ki ?_ | refine Kj ?_ | refine Kk ?_ | refine Kl ?_ | refine Km ?_ | refine Kn ?_ | refine Ko ?_))
        · skip
          try simp only [Za, Zb, Zc, Zd, Ze, Zf, Zg, Zh] at h2
          obtain rfl := eq_rep hql (fun j hj => hq0 j (by omega))
          refine w_exit (sq_e (lq_e (bk_h (?_))))
          refine res_intro (vs := []) Tryz.results20 (.inl rfl) (.nil) ?_
          exact ⟨_, by (repeat (first | exact Ka | refine Kb ?_ | refine Kc ?_ | refine Kf ?_ | refine Kd ?_ | refine Ke ?_ | refine Kh ?_ | refine Kg rfl ?_ | refine Ki ?_ | refine Kj ?_ | refine Kk ?_ | refine Kl ?_ | refine Km ?_ | refine Kn ?_ | refine Ko ?_)), gs, hgl, hgf, rfl⟩
end Go.Sx
