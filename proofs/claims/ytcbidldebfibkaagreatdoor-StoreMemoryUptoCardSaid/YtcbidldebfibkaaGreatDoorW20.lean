import Derived.Test.YtcbidldebfibkaaGreatDoorW19
set_option linter.unusedVariables false
set_option linter.unusedSimpArgs false
set_option linter.unusedSectionVars false
set_option linter.unnecessarySimpa false
namespace Go.Sx
open Go Go.Proofs
set_option maxRecDepth 100000
set_option linter.unusedSimpArgs false
set_option linter.unusedVariables false

/-- A field, of its name's bytes and its byte. -/
def mkF (q : List Nat) (k : Nat) : FV := ⟨strB q, ((k &&& 3 : Nat) : Int), decide (((k &&& 4 : Nat) : Int) ≠ 0), decide (((k &&& 8 : Nat) : Int) ≠ 0), decide (((k &&& 16 : Nat) : Int) ≠ 0)⟩
def rdFs : Nat → Bool → List Nat → Option (List FV × Bool × Nat)
  | 0, odd, _ => some ([], odd, 0)
  | n + 1, odd, l =>
    match rdText 32 l with
    | .error _ => none
    | .ok (q, m) =>
      match l[m]? with
      | none => none
      | some k =>
        match rdFs n (odd || decide (31 < k)) (l.drop (m + 1)) with
        | none => none
        | some (r, o, c) => some (mkF q k :: r, o, m + 1 + c)
def rdS (l : List Nat) : Option (List FV) :=
  match rdUpto 16 l with
  | .error _ => none
  | .ok (n, m) =>
    match rdFs n false (l.drop m) with
    | none => none
    | some (fs, odd, c) => if m + c < l.length ∨ odd = true then none else some fs
def glueF (fs : List FV) (a : Nat) : Option (List FV × Bool × Nat) → Option (List FV × Bool × Nat)
  | none => none
  | some (r, o, c) => some (fs ++ r, o, a + c)
theorem rdText_ok {most : Nat} {l q : List Nat} {m : Nat} (hb : ∀ x ∈ l, x < 256) (h : rdText most l = .ok (q, m)) : m ≤ l.length ∧ q.length ≤ most ∧ (∀ x ∈ q, x < 256) ∧ l.take m = uv q.length ++ q := by
  unfold rdText at h
  split at h
  · cases h
  · rename_i n m' hr
    obtain ⟨h1, h2, h3, h4⟩ := rdUpto_ok hb hr
    split at h
    · cases h
    · simp only [Except.ok.injEq, Prod.mk.injEq] at h
      obtain ⟨rfl, rfl⟩ := h
      have hl : ((l.drop m').take n).length = n := by rw [List.length_take, List.length_drop]; omega
      refine ⟨by omega, by omega, fun x hx => hb x (List.mem_of_mem_drop (List.mem_of_mem_take hx)), ?_⟩
      rw [hl, ← h3, List.take_add]
theorem rdFs_small : ∀ (n : Nat) (odd : Bool) (l : List Nat) (fs : List FV) (o : Bool) (c : Nat), (∀ x ∈ l, x < 256) → rdFs n odd l = some (fs, o, c) → fs.length = n ∧ ∀ f ∈ fs, f.name.size ≤ 32
  | 0, odd, l, fs, o, c, hb, h => by
    simp only [rdFs, Option.some.injEq, Prod.mk.injEq] at h
    obtain ⟨rfl, _, _⟩ := h
    exact ⟨rfl, fun f hf => by cases hf⟩
  | n + 1, odd, l, fs, o, c, hb, h => by
    rw [rdFs] at h
    split at h
    · cases h
    · rename_i q m hr
      obtain ⟨p1, p2, p3, p4⟩ := rdText_ok hb hr
      split at h
      · cases h
      · split at h
        · cases h
        · rename_i r o' c' hrr
          simp only [Option.some.injEq, Prod.mk.injEq] at h
          obtain ⟨rfl, _, _⟩ := h
          obtain ⟨q1, q2⟩ := rdFs_small n _ _ r o' c' (fun y hy => hb y (List.mem_of_mem_drop hy)) hrr
          refine ⟨by simp [q1], fun f hf => ?_⟩
          rcases List.mem_cons.1 hf with rfl | hf
          · simp only [mkF, strB_size]; exact p2
          · exact q2 f hf
theorem rdS_small {l : List Nat} {fs : List FV} (hb : ∀ x ∈ l, x < 256) (h : rdS l = some fs) : fs.length ≤ 16 ∧ ∀ f ∈ fs, f.name.size ≤ 32 := by
  rw [rdS] at h
  split at h
  · cases h
  · rename_i n m hu
    obtain ⟨u1, u2, u3, u4⟩ := rdUpto_ok hb hu
    split at h
    · cases h
    · rename_i g odd c hf
      split at h
      · cases h
      · simp only [Option.some.injEq] at h
        subst h
        obtain ⟨q1, q2⟩ := rdFs_small n _ _ g odd c (fun y hy => hb y (List.mem_of_mem_drop hy)) hf
        exact ⟨by omega, q2⟩
/-- The schema of these bytes, if it is a good one. -/
def decS (l : List Nat) : Option (List FV) :=
  match rdS l with
  | none => none
  | some fs => if chkS fs = true then some fs else none

section
variable {G : Base} {P : Program} {t : Tm} {H : Heap} {dst : Option Tmp} {ty : TypeId} {pos : String} {after : Array Edge} {g : Option (Nat × Bool)}
theorem ev_pick_or_t {a b c : Operand} {p q : Bool} (hc : evo t c = some (.bool true)) (hp : p = true) (ha : evo t a = some (.bool true)) : Ev G P ⟨dst, .pick c a b, ty, pos, after, g⟩ t H (.bool (p || q)) := by
  rw [hp, Bool.true_or]; exact ev_pick_t hc ha
theorem ev_pick_or_f {a b c : Operand} {p q : Bool} (hc : evo t c = some (.bool false)) (hp : p = false) (hb : evo t b = some (.bool q)) : Ev G P ⟨dst, .pick c a b, ty, pos, after, g⟩ t H (.bool (p || q)) := by
  rw [hp, Bool.false_or]; exact ev_pick_f hc hb
end

theorem sdecode {G : Base} {H R : Heap} {b : Nat} {xs : List Nat} [hg : Glb G R] [hr : Rem H Rd b (xs, 0) R] (hn : xs.length ≤ 1000000000) (hb : ∀ x ∈ xs, x < 256) : SC G Tryz.prog 84 [.pointer (some ⟨b, 0, none⟩)] H (fun v H' =>
    (rdS xs = none ∧ H' = R ∧ ∃ (s' : SV) (e : Nat), v = .tuple #[.agg [s'.val].toArray, G.err e]) ∨ (∃ fs, ∃ s' : SV, rdS xs = some fs ∧ v = .tuple #[.agg [s'.val].toArray, .nilIface] ∧ H' = Row s' eF fs :: R)) := by
  refine SC.rem (h := hr) ?_
  refine SC.out (sc_walk Tryz.func84 rfl Tryz.ntmps84 (by kernel_rfl) (Nat.le_of_ble_eq_true rfl) ?_)
  refine w_seq (w_region (?_))
  refine o_st (st_alloc) rfl ?_
  rintro _ _ ⟨b1, rfl, rfl⟩
  refine o_ev (ev_assign rfl) rfl ?_
  refine o_nil (sq_n (w_seq (w_region (?_))))
  refine o_st (st_alloc) rfl ?_
  rintro _ _ ⟨b2, rfl, rfl⟩
  refine o_nil (sq_n (w_seq (w_region (?_))))
  refine o_ev (ev_move rfl) rfl ?_
  refine o_st (st_call (vs := [_, _]) rfl (rUpto (most := 16) (Nat.zero_le _) (by omega) hb (by omega))) rfl ?_
  rintro v1 H1 hK
  rw [List.drop_zero] at hK
  rcases hK with ⟨e, he, rfl, rfl⟩ | ⟨n, m, he, rfl, rfl⟩
  · skip
    refine o_ev (ev_move rfl) rfl ?_
    refine o_ev (ev_extract1 rfl rfl) rfl ?_
    refine o_ev (ev_extract1 rfl rfl) rfl ?_
    refine o_ev (ev_assign rfl) rfl ?_
    refine o_ev (ev_assign rfl) rfl ?_
    refine o_nil (sq_n (w_seq (w_seq (w_region (?_)))))
    refine o_ev (ev_move rfl) rfl ?_
    refine o_ev (ev_neq_nil_val rfl) rfl ?_
    refine o_nil (sq_n (?_))
    refine w_if_true rfl (w_seq (w_region (?_)))
    refine o_ev (ev_loadS rfl) rfl ?_
    refine o_ev (ev_move rfl) rfl ?_
    refine o_st (st_store rfl rfl rfl) rfl ?_
    rintro _ _ ⟨rfl, rfl⟩
    refine o_ev (ev_assign rfl) rfl ?_
    refine o_nil (sq_n (w_ret (sq_r (?_))))
    refine res_intro (vs := [_, _]) Tryz.results84 (.inr rfl) (.cons ((.cell rfl rfl)) (.cons (.tmp rfl) (.nil))) ?_
    exact ⟨_, by (repeat (first | exact Ka | refine Kb ?_ | refine Kc ?_ | refine Kf ?_ | refine Kd ?_ | refine Ke ?_ | refine Kh ?_ | refine Kg rfl ?_ | refine Ki ?_ | refine Kj ?_ | refine Kk ?_ | refine Kl ?_ | refine Km ?_ | refine Kn ?_ | refine Ko ?_)), .inl ⟨by rw [rdS, he], rfl, SV.nil, e, rfl⟩⟩
  · skip
    rw [Nat.zero_add m]
    obtain ⟨q1, q2, q3, q4⟩ := rdUpto_ok hb he
    refine o_ev (ev_move rfl) rfl ?_
    refine o_ev (ev_extract1 rfl rfl) rfl ?_
    refine o_ev (ev_extract1 rfl rfl) rfl ?_
    refine o_ev (ev_assign rfl) rfl ?_
    refine o_ev (ev_assign rfl) rfl ?_
    refine o_nil (sq_n (w_seq (w_seq (w_region (?_)))))
    refine o_ev (ev_move rfl) rfl ?_
    refine o_ev (ev_neq_nil_nil rfl) rfl ?_
    refine o_nil (sq_n (?_))
    refine w_if_false rfl (w_skip (sq_n (w_seq (w_region (?_)))))
    refine o_ev (ev_assign rfl) rfl ?_
    refine o_nil (sq_n (w_seq (w_seq (w_region (?_)))))
    refine o_ev (ev_move rfl) rfl ?_
    refine o_ev (ev_move rfl) rfl ?_
    refine o_nil (sq_n (w_block (?_)))
    refine w_loop (SV × Nat × Bool × List FV × Nat) (fun y => y.2.1 ≤ n ∧ m + y.2.2.2.2 ≤ xs.length ∧ y.2.2.2.1.length = y.2.1 ∧ rdFs n false (xs.drop m) = glueF y.2.2.2.1 y.2.2.2.2 (rdFs (n - y.2.1) y.2.2.1 (xs.drop (m + y.2.2.2.2)))) (fun y => [(0, .pointer (some ⟨b, 0, none⟩)), (2, .pointer (some ⟨b1, 0, none⟩)), (4, .pointer (some ⟨b2, 0, none⟩)), (7, .bool y.2.2.1), (21, .int .i64 ((n : Nat) : Int)), (22, .int .i64 ((y.2.1 : Nat) : Int))]) (fun y => Vr b2 [y.1.val] :: Row y.1 eF y.2.2.2.1 :: Rd b (xs, m + y.2.2.2.2) :: Vr b1 [SV.nil.val] :: R) (fun y => n - y.2.1) ((SV.nil, 0, false, [], 0)) ?_ ?_ ?_ ?_
    · (try dsimp only)
      refine ⟨Nat.zero_le _, by omega, rfl, ?_⟩
      rw [Nat.add_zero, Nat.sub_zero]
      cases rdFs n false (xs.drop m) with
      | none => rfl
      | some p => simp [glueF]
    · repeat (first | exact Sub.nil | refine Sub.cons rfl ?_)
    · (try dsimp only)
      (repeat (first | exact Ka | refine Kb ?_ | refine Kc ?_ | refine Kf ?_ | refine Kd ?_ | refine Ke ?_ | refine Kh ?_ | refine Kg rfl ?_ | refine Ki ?_ | refine Kj ?_ | refine Kk ?_ | refine Kl ?_ | refine Km ?_ | refine Kn ?_ | refine Ko ?_))
    · rintro ⟨s, j, odd, fs, a⟩ ⟨hj, ha, hfl, hI⟩
      (try dsimp only at *)
      refine w_seq (w_region (?_))
      refine o_ev (ev_lss rfl rfl) rfl ?_
      refine o_nil (sq_n (w_seq (?_)))
      refine w_if rfl (fun h1 => ?_) (fun h1 => ?_)
      · skip
        try simp only [Za, Zb, Zc, Zd, Ze, Zf, Zg, Zh] at h1
        obtain ⟨d, hd⟩ : ∃ d, n - j = d + 1 := ⟨n - j - 1, by omega⟩
        rw [hd, rdFs] at hI
        refine w_skip (sq_n (w_seq (w_block (w_seq (w_region (?_))))))
        refine o_ev (ev_move rfl) rfl ?_
        refine o_st (st_call (vs := [_, _]) rfl (rText (most := 32) ha (by omega) hb (by omega))) rfl ?_
        rintro v1 H1 hK
        rcases hK with ⟨e, he2, rfl, rfl⟩ | ⟨q, c, he2, rfl, rfl⟩
        all_goals rw [he2] at hI
        all_goals simp only [] at hI
        · skip
          refine o_ev (ev_move rfl) rfl ?_
          refine o_ev (ev_extract1 rfl rfl) rfl ?_
          refine o_ev (ev_extract1 rfl rfl) rfl ?_
          refine o_ev (ev_assign rfl) rfl ?_
          refine o_ev (ev_assign rfl) rfl ?_
          refine o_nil (sq_n (w_seq (w_seq (w_region (?_)))))
          refine o_ev (ev_move rfl) rfl ?_
          refine o_ev (ev_neq_nil_val rfl) rfl ?_
          refine o_nil (sq_n (?_))
          refine w_if_true rfl (w_seq (w_region (?_)))
          refine o_ev (ev_loadS rfl) rfl ?_
          refine o_ev (ev_move rfl) rfl ?_
          refine o_st (st_store rfl rfl rfl) rfl ?_
          rintro _ _ ⟨rfl, rfl⟩
          refine o_ev (ev_assign rfl) rfl ?_
          refine o_nil (sq_n (w_ret (sq_r (bk_r (sq_r (lq_r (bk_r (sq_r (?_)))))))))
          refine res_intro (vs := [_, _]) Tryz.results84 (.inr rfl) (.cons ((.cell rfl rfl)) (.cons (.tmp rfl) (.nil))) ?_
          exact ⟨_, by (repeat (first | exact Ka | refine Kb ?_ | refine Kc ?_ | refine Kf ?_ | refine Kd ?_ | refine Ke ?_ | refine Kh ?_ | refine Kg rfl ?_ | refine Ki ?_ | refine Kj ?_ | refine Kk ?_ | refine Kl ?_ | refine Km ?_ | refine Kn ?_ | refine Ko ?_)), .inl ⟨by rw [rdS, he]; simp only []; rw [hI]; rfl, rfl, s, e, rfl⟩⟩
        · skip
          obtain ⟨p1, p2, p3, p4⟩ := rdText_ok (fun x hx => hb x (List.mem_of_mem_drop hx)) he2
          rw [List.length_drop] at p1
          rw [List.getElem?_drop] at hI
          refine o_ev (ev_move rfl) rfl ?_
          refine o_ev (ev_extract1 rfl rfl) rfl ?_
          refine o_ev (ev_extract1 rfl rfl) rfl ?_
          refine o_ev (ev_assign rfl) rfl ?_
          refine o_ev (ev_assign rfl) rfl ?_
          refine o_nil (sq_n (w_seq (w_seq (w_region (?_)))))
          refine o_ev (ev_move rfl) rfl ?_
          refine o_ev (ev_neq_nil_nil rfl) rfl ?_
          refine o_nil (sq_n (?_))
          refine w_if_false rfl (w_skip (sq_n (w_seq (w_region (?_)))))
          refine o_ev (ev_move rfl) rfl ?_
          refine o_st (st_call (vs := [_]) rfl (rByte (by omega) (by omega))) rfl ?_
          rintro v1 H1 hK
          rcases hK with ⟨he3, rfl, rfl⟩ | ⟨x, he3, rfl, rfl⟩
          · skip
            rw [List.getElem?_eq_none (by omega)] at hI
            refine o_ev (ev_move rfl) rfl ?_
            refine o_ev (ev_extract1 rfl rfl) rfl ?_
            refine o_ev (ev_extract1 rfl rfl) rfl ?_
            refine o_ev (ev_assign rfl) rfl ?_
            refine o_ev (ev_assign rfl) rfl ?_
            refine o_nil (sq_n (w_seq (w_seq (w_region (?_)))))
            refine o_ev (ev_move rfl) rfl ?_
            refine o_ev (ev_neq_nil_val rfl) rfl ?_
            refine o_nil (sq_n (?_))
            refine w_if_true rfl (w_seq (w_region (?_)))
            refine o_ev (ev_loadS rfl) rfl ?_
            refine o_ev (ev_move rfl) rfl ?_
            refine o_st (st_store rfl rfl rfl) rfl ?_
            rintro _ _ ⟨rfl, rfl⟩
            refine o_ev (ev_assign rfl) rfl ?_
            refine o_nil (sq_n (w_ret (sq_r (bk_r (sq_r (lq_r (bk_r (sq_r (?_)))))))))
            refine res_intro (vs := [_, _]) Tryz.results84 (.inr rfl) (.cons ((.cell rfl rfl)) (.cons (.tmp rfl) (.nil))) ?_
            exact ⟨_, by (repeat (first | exact Ka | refine Kb ?_ | refine Kc ?_ | refine Kf ?_ | refine Kd ?_ | refine Ke ?_ | refine Kh ?_ | refine Kg rfl ?_ | refine Ki ?_ | refine Kj ?_ | refine Kk ?_ | refine Kl ?_ | refine Km ?_ | refine Kn ?_ | refine Ko ?_)), .inl ⟨by rw [rdS, he]; simp only []; rw [hI]; rfl, rfl, s, _, rfl⟩⟩
          · skip
            rw [he3] at hI
            simp only [List.drop_drop] at hI
            have hxb := hb x (List.mem_of_getElem? he3)
            have hxl := (List.getElem?_eq_some_iff.1 he3).1
            have ha3 : x &&& 3 ≤ 3 := Nat.and_le_right
            have ha4 : x &&& 4 ≤ 4 := Nat.and_le_right
            have ha8 : x &&& 8 ≤ 8 := Nat.and_le_right
            have ha16 : x &&& 16 ≤ 16 := Nat.and_le_right
            have hdec : decide ((31 : Int) < ((x : Nat) : Int)) = decide (31 < x) := by rw [decide_eq_decide]; omega
            refine o_ev (ev_move rfl) rfl ?_
            refine o_ev (ev_extract1 rfl rfl) rfl ?_
            refine o_ev (ev_extract1 rfl rfl) rfl ?_
            refine o_ev (ev_assign rfl) rfl ?_
            refine o_ev (ev_assign rfl) rfl ?_
            refine o_nil (sq_n (w_seq (w_seq (w_region (?_)))))
            refine o_ev (ev_move rfl) rfl ?_
            refine o_ev (ev_neq_nil_nil rfl) rfl ?_
            refine o_nil (sq_n (?_))
            refine w_if_false rfl (w_skip (sq_n (w_seq (w_region (?_)))))
            refine o_ev (ev_move rfl) rfl ?_
            refine o_split (ev_move rfl) rfl (fun h2 => ?_) (fun h2 => ?_)
            · skip
              skip
              have ho : odd = true := h2
              refine o_off rfl rfl rfl ?_
              refine o_off rfl rfl rfl ?_
              refine o_ev ((by first | exact ev_pick_or_t (p := odd) (q := decide ((31 : Int) < ((x : Nat) : Int))) rfl ho rfl | exact ev_pick_or_f (p := odd) rfl ho rfl)) rfl ?_
              refine o_ev (ev_assign rfl) rfl ?_
              refine o_nil (sq_n (w_region (?_)))
              try rw [hdec]
              refine o_ev (ev_fieldAddr rfl) rfl ?_
              refine o_ev (ev_load rfl) rfl ?_
              refine o_ev (ev_move rfl) rfl ?_
              refine o_ev (ev_move rfl) rfl ?_
              refine o_ev (ev_andM 256 rfl rfl rfl rfl _ 3 rfl rfl (by first | decide | omega) (by first | decide | omega)) rfl ?_
              refine o_ev (ev_conv64 rfl (by omega)) rfl ?_
              refine o_ev (ev_move rfl) rfl ?_
              refine o_ev (ev_andM 256 rfl rfl rfl rfl _ 4 rfl rfl (by first | decide | omega) (by first | decide | omega)) rfl ?_
              refine o_ev (ev_neq rfl rfl) rfl ?_
              refine o_ev (ev_move rfl) rfl ?_
              refine o_ev (ev_andM 256 rfl rfl rfl rfl _ 8 rfl rfl (by first | decide | omega) (by first | decide | omega)) rfl ?_
              refine o_ev (ev_neq rfl rfl) rfl ?_
              refine o_ev (ev_move rfl) rfl ?_
              refine o_ev (ev_andM 256 rfl rfl rfl rfl _ 16 rfl rfl (by first | decide | omega) (by first | decide | omega)) rfl ?_
              refine o_ev (ev_neq rfl rfl) rfl ?_
              refine o_ev (ev_build (vs := [(0, _), (1, _), (2, _), (3, _), (4, _)]) rfl) rfl ?_
              refine o_st (st_build1 eF rfl rfl) rfl ?_
              rintro _ _ ⟨sx, rfl, rfl⟩
              refine o_st (st_append rfl rfl rfl rfl (by first | omega | (simp; omega)) (by first | omega | (simp; omega))) rfl ?_
              rintro _ _ ⟨sy, rfl, rfl⟩
              refine o_ev (ev_fieldAddr rfl) rfl ?_
              refine o_st (st_store rfl rfl rfl) rfl ?_
              rintro _ _ ⟨rfl, rfl⟩
              refine o_nil (bk_n (sq_n (w_region (?_))))
              refine o_ev (ev_add rfl rfl (by omega)) rfl ?_
              refine o_ev (ev_move rfl) rfl ?_
              refine o_nil (?_)
              skip
              refine lq_n ((sy, j + 1, odd || decide (31 < x), fs ++ [mkF q x], a + (c + 1))) ?_ ?_ ?_ ?_
              · (try dsimp only)
                refine ⟨by omega, by omega, by simp; omega, ?_⟩
                rw [hI, show n - (j + 1) = d by omega, show m + (a + (c + 1)) = m + a + (c + 1) by omega]
                cases rdFs d (odd || decide (31 < x)) (xs.drop (m + a + (c + 1))) with
                | none => rfl
                | some p => simp [glueF]; omega
              · (try dsimp only)
                omega
              · repeat (first | exact Sub.nil | refine Sub.cons rfl ?_)
              · (try dsimp only)
                rw [show m + (a + (c + 1)) = m + a + c + 1 by omega]
                (repeat (first | exact Ka | refine Kb ?_ | refine Kc ?_ | refine Kf ?_ | refine Kd ?_ | refine Ke ?_ | refine Kh ?_ | refine Kg rfl ?_ | refine Ki ?_ | refine Kj ?_ | refine Kk ?_ | refine Kl ?_ | refine Km ?_ | refine Kn ?_ | refine Ko ?_))
            · skip
              skip
              have ho : odd = false := h2
              refine o_on_ev rfl rfl rfl (ev_move rfl) ?_
              refine o_on_ev rfl rfl rfl (ev_gtr rfl rfl) ?_
              refine o_ev ((by first | exact ev_pick_or_t (p := odd) (q := decide ((31 : Int) < ((x : Nat) : Int))) rfl ho rfl | exact ev_pick_or_f (p := odd) rfl ho rfl)) rfl ?_
              refine o_ev (ev_assign rfl) rfl ?_
              refine o_nil (sq_n (w_region (?_)))
              try rw [hdec]
              refine o_ev (ev_fieldAddr rfl) rfl ?_
              refine o_ev (ev_load rfl) rfl ?_
              refine o_ev (ev_move rfl) rfl ?_
              refine o_ev (ev_move rfl) rfl ?_
              refine o_ev (ev_andM 256 rfl rfl rfl rfl _ 3 rfl rfl (by first | decide | omega) (by first | decide | omega)) rfl ?_
              refine o_ev (ev_conv64 rfl (by omega)) rfl ?_
              refine o_ev (ev_move rfl) rfl ?_
              refine o_ev (ev_andM 256 rfl rfl rfl rfl _ 4 rfl rfl (by first | decide | omega) (by first | decide | omega)) rfl ?_
              refine o_ev (ev_neq rfl rfl) rfl ?_
              refine o_ev (ev_move rfl) rfl ?_
              refine o_ev (ev_andM 256 rfl rfl rfl rfl _ 8 rfl rfl (by first | decide | omega) (by first | decide | omega)) rfl ?_
              refine o_ev (ev_neq rfl rfl) rfl ?_
              refine o_ev (ev_move rfl) rfl ?_
              refine o_ev (ev_andM 256 rfl rfl rfl rfl _ 16 rfl rfl (by first | decide | omega) (by first | decide | omega)) rfl ?_
              refine o_ev (ev_neq rfl rfl) rfl ?_
              refine o_ev (ev_build (vs := [(0, _), (1, _), (2, _), (3, _), (4, _)]) rfl) rfl ?_
              refine o_st (st_build1 eF rfl rfl) rfl ?_
              rintro _ _ ⟨sx, rfl, rfl⟩
              refine o_st (st_append rfl rfl rfl rfl (by first | omega | (simp; omega)) (by first | omega | (simp; omega))) rfl ?_
              rintro _ _ ⟨sy, rfl, rfl⟩
              refine o_ev (ev_fieldAddr rfl) rfl ?_
              refine o_st (st_store rfl rfl rfl) rfl ?_
              rintro _ _ ⟨rfl, rfl⟩
              refine o_nil (bk_n (sq_n (w_region (?_))))
              refine o_ev (ev_add rfl rfl (by omega)) rfl ?_
              refine o_ev (ev_move rfl) rfl ?_
              refine o_nil (?_)
              skip
              refine lq_n ((sy, j + 1, odd || decide (31 < x), fs ++ [mkF q x], a + (c + 1))) ?_ ?_ ?_ ?_
              · (try dsimp only)
                refine ⟨by omega, by omega, by simp; omega, ?_⟩
                rw [hI, show n - (j + 1) = d by omega, show m + (a + (c + 1)) = m + a + (c + 1) by omega]
                cases rdFs d (odd || decide (31 < x)) (xs.drop (m + a + (c + 1))) with
                | none => rfl
                | some p => simp [glueF]; omega
              · (try dsimp only)
                omega
              · repeat (first | exact Sub.nil | refine Sub.cons rfl ?_)
              · (try dsimp only)
                rw [show m + (a + (c + 1)) = m + a + c + 1 by omega]
                (repeat (first | exact Ka | refine Kb ?_ | refine Kc ?_ | refine Kf ?_ | refine Kd ?_ | refine Ke ?_ | refine Kh ?_ | refine Kg rfl ?_ | refine Ki ?_ | refine Kj ?_ | refine Kk ?_ | refine Kl ?_ | refine Km ?_ | refine Kn ?_ | refine Ko ?_))
      · skip
        try simp only [Za, Zb, Zc, Zd, Ze, Zf, Zg, Zh] at h1
        obtain rfl : j = n := by omega
        rw [Nat.sub_self, rdFs] at hI
        refine w_exit (sq_e (lq_e (bk_h (sq_n (w_seq (w_seq (w_region (?_))))))))
        refine o_ev (ev_move rfl) rfl ?_
        refine o_ev (ev_nilCheck rfl) rfl ?_
        refine o_ev (ev_fieldAddr rfl) rfl ?_
        refine o_st (st_call (vs := [_]) rfl (spanDone (by omega))) rfl ?_
        rintro v1 H1 ⟨rfl, hK⟩
        rcases hK with ⟨hlt, rfl⟩ | ⟨heq, rfl⟩
        · skip
          refine o_ev (ev_assign rfl) rfl ?_
          refine o_nil (sq_n (w_seq (w_region (?_))))
          refine o_ev (ev_move rfl) rfl ?_
          refine o_ev (ev_neq_nil_val rfl) rfl ?_
          refine o_nil (sq_n (?_))
          refine w_if_true rfl (w_seq (w_region (?_)))
          refine o_ev (ev_loadS rfl) rfl ?_
          refine o_ev (ev_move rfl) rfl ?_
          refine o_st (st_store rfl rfl rfl) rfl ?_
          rintro _ _ ⟨rfl, rfl⟩
          refine o_ev (ev_assign rfl) rfl ?_
          refine o_nil (sq_n (w_ret (sq_r (?_))))
          refine res_intro (vs := [_, _]) Tryz.results84 (.inr rfl) (.cons ((.cell rfl rfl)) (.cons (.tmp rfl) (.nil))) ?_
          exact ⟨_, by (repeat (first | exact Ka | refine Kb ?_ | refine Kc ?_ | refine Kf ?_ | refine Kd ?_ | refine Ke ?_ | refine Kh ?_ | refine Kg rfl ?_ | refine Ki ?_ | refine Kj ?_ | refine Kk ?_ | refine Kl ?_ | refine Km ?_ | refine Kn ?_ | refine Ko ?_)), .inl ⟨by rw [rdS, he]; simp only []; rw [hI]; simp only [glueF, List.append_nil, Nat.add_zero]; rw [if_pos (.inl hlt)], rfl, s, _, rfl⟩⟩
        · skip
          refine o_ev (ev_assign rfl) rfl ?_
          refine o_nil (sq_n (w_seq (w_region (?_))))
          refine o_ev (ev_move rfl) rfl ?_
          refine o_ev (ev_neq_nil_nil rfl) rfl ?_
          refine o_nil (sq_n (?_))
          refine w_if_false rfl (w_skip (sq_n (w_seq (w_seq (w_region (?_))))))
          refine o_ev (ev_move rfl) rfl ?_
          refine o_nil (sq_n (?_))
          refine w_if rfl (fun h3 => ?_) (fun h3 => ?_)
          · skip
            try simp only [Za, Zb, Zc, Zd, Ze, Zf, Zg, Zh] at h3
            refine w_seq (?_)
            refine w_draw Tryz_mixed (fun i => [2].contains i) (fun k H => (k = 0 → HasV H b2 [s.val]) ∧ (k = 1 → HasV H 0 [G.err 0])) ?_
            refine an_first 0 rfl rfl (by kernel_rfl) rfl (Qv.of_ev (fun H hH => by have hN := hH.1 rfl; exact ev_loadS rfl)) ?_
            refine an_first 1 rfl rfl (by kernel_rfl) rfl (Qv.of_ev (fun H hH => by have hN := hH.2 rfl; exact ev_load rfl)) ?_
            refine an_step 2 rfl (by kernel_rfl) rfl (fun k hk => ⟨fun hi => by subst hi; infer_instance, fun hi => by subst hi; infer_instance⟩) (st_store rfl rfl rfl) ?_
            rintro _ _ ⟨rfl, rfl⟩
            refine an_first 3 rfl rfl (by kernel_rfl) rfl (Qv.of_ev (fun H hH => ev_assign rfl)) ?_
            refine an_nil (by kernel_rfl) (fun k hk => ⟨fun hi => absurd hk (by subst hi; exact not_live (by kernel_rfl)), fun hi => by subst hi; infer_instance⟩) (sq_n (w_ret (sq_r (?_))))
            refine res_intro (vs := [_, _]) Tryz.results84 (.inr rfl) (.cons ((.cell rfl rfl)) (.cons (.tmp rfl) (.nil))) ?_
            exact ⟨_, by (repeat (first | exact Ka | refine Kb ?_ | refine Kc ?_ | refine Kf ?_ | refine Kd ?_ | refine Ke ?_ | refine Kh ?_ | refine Kg rfl ?_ | refine Ki ?_ | refine Kj ?_ | refine Kk ?_ | refine Kl ?_ | refine Km ?_ | refine Kn ?_ | refine Ko ?_)), .inl ⟨by rw [rdS, he]; simp only []; rw [hI]; simp only [glueF, List.append_nil, Nat.add_zero]; rw [if_pos (.inr (by assumption))], rfl, s, _, rfl⟩⟩
          · skip
            try simp only [Za, Zb, Zc, Zd, Ze, Zf, Zg, Zh] at h3
            refine w_skip (sq_n (w_seq (w_region (?_))))
            refine o_ev (ev_loadS rfl) rfl ?_
            refine o_st (st_store rfl rfl rfl) rfl ?_
            rintro _ _ ⟨rfl, rfl⟩
            refine o_ev (ev_assign rfl) rfl ?_
            refine o_nil (sq_n (w_ret (?_)))
            refine res_intro (vs := [_, _]) Tryz.results84 (.inr rfl) (.cons ((.cell rfl rfl)) (.cons (.tmp rfl) (.nil))) ?_
            refine ⟨_, by (repeat (first | exact Ka | refine Kb ?_ | refine Kc ?_ | refine Kf ?_ | refine Kd ?_ | refine Ke ?_ | refine Kh ?_ | refine Kg rfl ?_ | refine Ki ?_ | refine Kj ?_ | refine Kk ?_ | refine Kl ?_ | refine Km ?_ | refine Kn ?_ | refine Ko ?_)), .inr ⟨fs, s, ?_, rfl, rfl⟩⟩
            rw [rdS, he]; simp only []; rw [hI]; simp only [glueF, List.append_nil, Nat.add_zero]
            rw [if_neg (by rintro (h | h)
                           · omega
                           · simp_all)]

theorem sDecode {G : Base} {H : Heap} {s : SV} {xs : List Nat} [hg : Glb G H] [hs : Sl H s eB xs] (hn : xs.length ≤ 1000000000) (hb : ∀ x ∈ xs, x < 256) : SC G Tryz.prog 44 [s.val] H (fun v H' =>
    (decS xs = none ∧ H' = H ∧ ∃ (s' : SV) (e : Nat), v = .tuple #[.agg [s'.val].toArray, G.err e]) ∨ (∃ fs, ∃ s' : SV, decS xs = some fs ∧ v = .tuple #[.agg [s'.val].toArray, .nilIface] ∧ H' = Row s' eF fs :: H)) := by
  refine SC.out (sc_walk Tryz.func44 rfl Tryz.ntmps44 (by kernel_rfl) (Nat.le_of_ble_eq_true rfl) ?_)
  refine w_seq (w_region (?_))
  refine o_st (st_alloc) rfl ?_
  rintro _ _ ⟨b1, rfl, rfl⟩
  refine o_ev (ev_assign rfl) rfl ?_
  refine o_nil (sq_n (w_seq (w_region (?_))))
  refine o_ev (ev_move rfl) rfl ?_
  refine o_st (st_call (vs := [_]) rfl (newReader (by omega))) rfl ?_
  rintro _ _ ⟨br, rfl, rfl⟩
  refine o_st (st_call (vs := [_]) rfl (sdecode hn hb)) rfl ?_
  rintro v1 H1 hK
  rcases hK with ⟨he, rfl, s2, e, rfl⟩ | ⟨fs, s2, he, rfl, rfl⟩
  · skip
    refine o_ev (ev_move rfl) rfl ?_
    refine o_ev (ev_extract1 rfl rfl) rfl ?_
    refine o_ev (ev_extract1 rfl rfl) rfl ?_
    refine o_st (st_alloc) rfl ?_
    rintro _ _ ⟨b2, rfl, rfl⟩
    refine o_st (st_store rfl rfl rfl) rfl ?_
    rintro _ _ ⟨rfl, rfl⟩
    refine o_ev (ev_assign rfl) rfl ?_
    refine o_nil (sq_n (w_seq (w_seq (w_region (?_)))))
    refine o_ev (ev_move rfl) rfl ?_
    refine o_ev (ev_eql_nil_val rfl) rfl ?_
    refine o_nil (sq_n (?_))
    refine w_if_false rfl (w_skip (sq_n (w_seq (w_seq (w_region (?_))))))
    refine o_ev (ev_move rfl) rfl ?_
    refine o_ev (ev_neq_nil_val rfl) rfl ?_
    refine o_nil (sq_n (?_))
    refine w_if_true rfl (w_seq (w_region (?_)))
    refine o_ev (ev_build (vs := []) rfl) rfl ?_
    refine o_ev (ev_move rfl) rfl ?_
    refine o_st (st_store rfl rfl rfl) rfl ?_
    rintro _ _ ⟨rfl, rfl⟩
    refine o_ev (ev_assign rfl) rfl ?_
    refine o_nil (sq_n (w_ret (sq_r (?_))))
    refine res_intro (vs := [_, _]) Tryz.results44 (.inr rfl) (.cons ((.cell rfl rfl)) (.cons (.tmp rfl) (.nil))) ?_
    exact ⟨_, by (repeat (first | exact Ka | refine Kb ?_ | refine Kc ?_ | refine Kf ?_ | refine Kd ?_ | refine Ke ?_ | refine Kh ?_ | refine Kg rfl ?_ | refine Ki ?_ | refine Kj ?_ | refine Kk ?_ | refine Kl ?_ | refine Km ?_ | refine Kn ?_ | refine Ko ?_)), .inl ⟨by rw [decS, he], rfl, SV.nil, e, rfl⟩⟩
  · skip
    obtain ⟨k1, k2⟩ := rdS_small hb he
    refine o_ev (ev_move rfl) rfl ?_
    refine o_ev (ev_extract1 rfl rfl) rfl ?_
    refine o_ev (ev_extract1 rfl rfl) rfl ?_
    refine o_st (st_alloc) rfl ?_
    rintro _ _ ⟨b3, rfl, rfl⟩
    refine o_st (st_store rfl rfl rfl) rfl ?_
    rintro _ _ ⟨rfl, rfl⟩
    refine o_ev (ev_assign rfl) rfl ?_
    refine o_nil (sq_n (w_seq (w_seq (w_region (?_)))))
    refine o_ev (ev_move rfl) rfl ?_
    refine o_ev (ev_eql_nil_nil rfl) rfl ?_
    refine o_nil (sq_n (?_))
    refine w_if_true rfl (w_region (?_))
    refine o_ev (ev_loadS rfl) rfl ?_
    refine o_st (st_call (vs := [_]) rfl (sCheck (by omega) (fun f hf => by have := k2 f hf; omega))) rfl ?_
    rintro v1 H1 ⟨rfl, hK⟩
    rcases hK with ⟨hc, rfl⟩ | ⟨hc, rfl⟩
    · skip
      refine o_ev (ev_assign rfl) rfl ?_
      refine o_nil (sq_n (w_seq (w_seq (w_region (?_)))))
      refine o_ev (ev_move rfl) rfl ?_
      refine o_ev (ev_neq_nil_val rfl) rfl ?_
      refine o_nil (sq_n (?_))
      refine w_if_true rfl (w_seq (w_region (?_)))
      refine o_ev (ev_build (vs := []) rfl) rfl ?_
      refine o_ev (ev_move rfl) rfl ?_
      refine o_st (st_store rfl rfl rfl) rfl ?_
      rintro _ _ ⟨rfl, rfl⟩
      refine o_ev (ev_assign rfl) rfl ?_
      refine o_nil (sq_n (w_ret (sq_r (?_))))
      refine res_intro (vs := [_, _]) Tryz.results44 (.inr rfl) (.cons ((.cell rfl rfl)) (.cons (.tmp rfl) (.nil))) ?_
      exact ⟨_, by (repeat (first | exact Ka | refine Kb ?_ | refine Kc ?_ | refine Kf ?_ | refine Kd ?_ | refine Ke ?_ | refine Kh ?_ | refine Kg rfl ?_ | refine Ki ?_ | refine Kj ?_ | refine Kk ?_ | refine Kl ?_ | refine Km ?_ | refine Kn ?_ | refine Ko ?_)), .inl ⟨by rw [decS, he]; simp only [hc]; rfl, rfl, SV.nil, 0, rfl⟩⟩
    · skip
      refine o_ev (ev_assign rfl) rfl ?_
      refine o_nil (sq_n (w_seq (w_seq (w_region (?_)))))
      refine o_ev (ev_move rfl) rfl ?_
      refine o_ev (ev_neq_nil_nil rfl) rfl ?_
      refine o_nil (sq_n (?_))
      refine w_if_false rfl (w_skip (sq_n (w_seq (w_region (?_)))))
      refine o_ev (ev_loadS rfl) rfl ?_
      refine o_st (st_store rfl rfl rfl) rfl ?_
      rintro _ _ ⟨rfl, rfl⟩
      refine o_ev (ev_assign rfl) rfl ?_
      refine o_nil (sq_n (w_ret (?_)))
      refine res_intro (vs := [_, _]) Tryz.results44 (.inr rfl) (.cons ((.cell rfl rfl)) (.cons (.tmp rfl) (.nil))) ?_
      exact ⟨_, by (repeat (first | exact Ka | refine Kb ?_ | refine Kc ?_ | refine Kf ?_ | refine Kd ?_ | refine Ke ?_ | refine Kh ?_ | refine Kg rfl ?_ | refine Ki ?_ | refine Kj ?_ | refine Kk ?_ | refine Kl ?_ | refine Km ?_ | refine Kn ?_ | refine Ko ?_)), .inr ⟨fs, s2, by rw [decS, he]; simp only [hc]; rfl, rfl, rfl⟩⟩
end Go.Sx
