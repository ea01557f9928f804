import Derived.Test.YtcbidldebfibkaaGreatDoorW20
set_option linter.unusedVariables false
set_option linter.unusedSimpArgs false
set_option linter.unusedSectionVars false
set_option linter.unnecessarySimpa false
namespace Go.Sx
open Go Go.Proofs
set_option maxRecDepth 100000
set_option linter.unusedSimpArgs false
set_option linter.unusedVariables false

/-! ## The plain laws: what was written is read back, and what is read is what was written -/
theorem wordOf_w32 {n : Nat} (r : List Nat) (h : n < 4294967296) : wordOf (w32 n ++ r) = n := by
  simp only [w32, List.cons_append, wordOf]; omega
theorem w32_wordOf {l : List Nat} (hl : 4 ≤ l.length) (hb : ∀ x ∈ l, x < 256) : w32 (wordOf l) = l.take 4 := by
  match l, hl with
  | a :: b :: c :: d :: r, _ =>
    have ha := hb a (by simp)
    have h2 := hb b (by simp)
    have hc := hb c (by simp)
    have hd := hb d (by simp)
    simp only [wordOf, w32, List.take_succ_cons, List.take_zero, List.cons.injEq, and_true]
    omega

theorem rdUv_uv0 {v : Nat} (r : List Nat) (h : v < 18446744073709551616) : rdUv 0 (uv v ++ r) = .ok (v, (uv v).length) :=
  rdUv_uv v 0 r (by omega) (by simpa using h) (fun h => absurd h (Nat.lt_irrefl 0))
theorem rdUpto_uv {most v : Nat} (r : List Nat) (h : v < 18446744073709551616) (hm : v ≤ most) : rdUpto most (uv v ++ r) = .ok (v, (uv v).length) := by
  rw [rdUpto, rdUv_uv0 r h]; simp only []; rw [if_neg (by omega)]
theorem take_mid {a b : List Nat} {n : Nat} (h : a.length ≤ n) : (a ++ b).take n = a ++ b.take (n - a.length) := by
  rw [List.take_append, List.take_of_length_le h]

theorem encP_len (tag : Nat) (body : List Nat) : (encP tag body).length = 1 + (uv body.length).length + body.length := by
  simp only [encP, List.length_append, List.length_singleton]
theorem encB_len (tag : Nat) (body : List Nat) : (encB tag body).length = 1 + (uv body.length).length + body.length + 4 := by
  rw [encB, List.length_append, encP_len, w32_len]

theorem rdBlk_cons (tag : Nat) (r : List Nat) : rdBlk (tag :: r) = if tag = 0 then none else
    match rdUv 0 (((tag :: r).take (min (tag :: r).length 11)).drop 1) with
    | .error _ => none
    | .ok (n, m) => if (tag :: r).length - (1 + m) < 4 ∨ (tag :: r).length - (1 + m) - 4 < n then none else
      if wordOf ((tag :: r).drop (1 + m + n)) = zipS ((tag :: r).take (1 + m + n)) then some (1 + m, 1 + m + n) else none := rfl
theorem rdBlk_encB {tag : Nat} {body : List Nat} (r : List Nat) (h0 : tag ≠ 0) (ht : tag < 256) (hb : ∀ x ∈ body, x < 256) (hl : body.length < 18446744073709551616) :
    rdBlk (encB tag body ++ r) = some (1 + (uv body.length).length, 1 + (uv body.length).length + body.length) := by
  have h10 := uv_len10 hl
  have hlen := encB_len tag body
  have hpl := encP_len tag body
  have hx : encB tag body ++ r = tag :: (uv body.length ++ (body ++ (w32 (zipS (encP tag body)) ++ r))) := by
    simp [encB, encP]
  have hrd : rdUv 0 (((encB tag body ++ r).take (min (encB tag body ++ r).length 11)).drop 1) = .ok (body.length, (uv body.length).length) := by
    rw [hx]
    have : min (tag :: (uv body.length ++ (body ++ (w32 (zipS (encP tag body)) ++ r)))).length 11 = (min (uv body.length ++ (body ++ (w32 (zipS (encP tag body)) ++ r))).length 10) + 1 := by
      rw [List.length_cons]; omega
    rw [this, List.take_succ_cons, List.drop_succ_cons, List.drop_zero, take_mid (by rw [List.length_append]; omega)]
    exact rdUv_uv0 _ hl
  rw [hx, rdBlk_cons, if_neg h0, ← hx, hrd]
  simp only []
  rw [if_neg (by rw [List.length_append]; omega)]
  have hd : (encB tag body ++ r).drop (1 + (uv body.length).length + body.length) = w32 (zipS (encP tag body)) ++ r := by
    rw [encB, List.append_assoc, ← hpl, List.drop_left]
  have ht : (encB tag body ++ r).take (1 + (uv body.length).length + body.length) = encP tag body := by
    rw [encB, List.append_assoc, ← hpl, List.take_left]
  rw [hd, ht, wordOf_w32 _ (zipS_lt (encP_lt (by assumption) hb)), if_pos rfl]

theorem encB_cut {tag : Nat} {body : List Nat} (r : List Nat) : ((encB tag body ++ r).take (1 + (uv body.length).length + body.length)).drop (1 + (uv body.length).length) = body := by
  have hpl := encP_len tag body
  have ht : (encB tag body ++ r).take (1 + (uv body.length).length + body.length) = encP tag body := by
    rw [encB, List.append_assoc, ← hpl, List.take_left]
  rw [ht, encP, show 1 + (uv body.length).length = ([tag] ++ uv body.length).length by simp [Nat.add_comm], List.drop_left]

theorem rdBlks_encAll : ∀ (bl : List (Nat × List Nat)), (∀ q ∈ bl, 0 < q.1 ∧ q.1 < 256 ∧ (∀ x ∈ q.2, x < 256) ∧ q.2.length < 18446744073709551616) → rdBlks bl.length (encAll bl) = some bl
  | [], _ => rfl
  | q :: bl, h => by
    obtain ⟨h1, h2, h3, h4⟩ := h q (by simp)
    have ih := rdBlks_encAll bl fun p hp => h p (by simp [hp])
    have he : encAll (q :: bl) = encB q.1 q.2 ++ encAll bl := by simp [encAll]
    rw [List.length_cons, rdBlks, he, rdBlk_encB _ (by omega) h2 h3 h4]
    simp only []
    have hd : (encB q.1 q.2 ++ encAll bl).drop (1 + (uv q.2.length).length + q.2.length + 4) = encAll bl := by
      rw [← encB_len q.1 q.2, List.drop_left]
    rw [hd, ih, encB_cut]
    simp only [Option.some.injEq, List.cons.injEq, and_true]
    simp [encB, encP]

theorem imgQ_len (kind : Nat) (bl : List (Nat × List Nat)) : (imgQ kind bl).length = 5 + (uv bl.length).length + (encAll bl).length := by
  simp only [imgQ, List.length_append, List.length_cons, List.length_nil]
theorem imgP_len (kind : Nat) (bl : List (Nat × List Nat)) : (imgP kind bl).length = 5 + (uv bl.length).length + (encAll bl).length + 4 := by
  rw [imgP, List.length_append, imgQ_len, w32_len]

theorem rdImg_imgP {kind : Nat} {bl : List (Nat × List Nat)} (hk0 : kind ≠ 0) (hk : kind < 256) (hn : bl.length < 18446744073709551616) (h : ∀ q ∈ bl, 0 < q.1 ∧ q.1 < 256 ∧ (∀ x ∈ q.2, x < 256) ∧ q.2.length < 18446744073709551616) : rdImg kind (imgP kind bl) = some bl := by
  have hl := imgP_len kind bl
  have hq := imgQ_len kind bl
  have h10 := uv_len10 hn
  have h1 := uv_pos bl.length
  have ht : (imgP kind bl).take ((imgP kind bl).length - 4) = imgQ kind bl := by
    rw [hl, imgP, show 5 + (uv bl.length).length + (encAll bl).length + 4 - 4 = (imgQ kind bl).length by omega, List.take_left]
  have hd : (imgP kind bl).drop ((imgP kind bl).length - 4) = w32 (sealS (imgQ kind bl)) := by
    rw [hl, imgP, show 5 + (uv bl.length).length + (encAll bl).length + 4 - 4 = (imgQ kind bl).length by omega, List.drop_left]
  have hlt : ∀ q ∈ bl, q.1 < 256 ∧ ∀ x ∈ q.2, x < 256 := fun q hq => ⟨(h q hq).2.1, (h q hq).2.2.1⟩
  rw [rdImg, ht, hd]
  have hw := wordOf_w32 [] (sealS_lt (imgQ_lt hk hlt))
  rw [List.append_nil] at hw
  have hlen10 : ¬ (imgP kind bl).length < 10 := by
    rw [hl]
    rcases Nat.lt_or_ge ((uv bl.length).length + (encAll bl).length) 1 with h0 | h0
    · omega
    · omega
  rw [if_neg hlen10, if_pos hw]
  have ht4 : (imgP kind bl).take 4 = [99, 110, 99, 100] := by simp [imgP, imgQ]
  have h4 : (imgP kind bl)[4]? = some kind := by simp [imgP, imgQ]
  rw [ht4, h4, if_neg (by simp [hk0])]
  have hrs : (imgQ kind bl).drop 5 = uv bl.length ++ encAll bl := by simp [imgQ]
  rw [hrs, take_mid (by rw [List.length_append]; omega), rdUv_uv0 _ hn]
  simp only []
  rw [List.drop_left, rdBlks_encAll bl h]

/-! ### And back -/
theorem rdBlk_back {l : List Nat} {f t : Nat} (hb : ∀ x ∈ l, x < 256) (h : rdBlk l = some (f, t)) : f ≤ t ∧ t + 4 ≤ l.length ∧ l.headD 0 ≠ 0 ∧ l.take (t + 4) = encB (l.headD 0) ((l.take t).drop f) := by
  match l, hb, h with
  | tag :: r, hb, h =>
    rw [rdBlk] at h
    split at h
    · cases h
    · rename_i h0
      split at h
      · cases h
      · rename_i n m hr
        split at h
        · cases h
        · rename_i hle
          split at h
          · rename_i hw
            simp only [Option.some.injEq, Prod.mk.injEq] at h
            obtain ⟨rfl, rfl⟩ := h
            have hb2 : ∀ x ∈ (((tag :: r).take (min (tag :: r).length 11)).drop 1), x < 256 := fun y hy => hb y (List.mem_of_mem_take (List.mem_of_mem_drop hy))
            obtain ⟨p1, p2, p3, p4, p5, p6⟩ := rdUv_ok _ 0 n m hb2 (by omega) hr
            have hlen : (tag :: r).length = r.length + 1 := rfl
            rw [List.length_drop, List.length_take] at p4
            have hm : r.take m = uv n := by
              rw [hlen, show min (r.length + 1) 11 = min r.length 10 + 1 by omega, List.take_succ_cons, List.drop_succ_cons, List.drop_zero, List.take_take] at p5
              rw [← p5]; congr 1; omega
            have hbod : ((tag :: r).take (1 + m + n)).drop (1 + m) = (r.drop m).take n := by
              rw [show 1 + m + n = m + n + 1 by omega, List.take_succ_cons, show 1 + m = m + 1 by omega, List.drop_succ_cons, List.drop_take, show m + n - m = n by omega]
            have hbl : ((r.drop m).take n).length = n := by rw [List.length_take, List.length_drop]; omega
            have htk : (tag :: r).take (1 + m + n) = encP tag ((r.drop m).take n) := by
              rw [show 1 + m + n = m + n + 1 by omega, List.take_succ_cons, List.take_add, hm, encP, hbl]; rfl
            refine ⟨by omega, by omega, h0, ?_⟩
            show (tag :: r).take (1 + m + n + 4) = encB tag _
            rw [hbod, encB, List.take_add, htk]
            congr 1
            rw [← htk, ← hw, w32_wordOf (by rw [List.length_drop]; omega) (fun y hy => hb y (List.mem_of_mem_drop hy))]
          · cases h
theorem rdBlks_back : ∀ (n : Nat) (l : List Nat) (bl : List (Nat × List Nat)), (∀ x ∈ l, x < 256) → rdBlks n l = some bl → bl.length = n ∧ l = encAll bl ∧ (∀ q ∈ bl, q.1 ≠ 0) ∧ (∀ q ∈ bl, q.1 < 256 ∧ ∀ x ∈ q.2, x < 256)
  | 0, l, bl, hb, h => by
    rw [rdBlks] at h
    split at h
    · cases h
      exact ⟨rfl, List.length_eq_zero_iff.1 (by assumption), fun q hq => (by cases hq), fun q hq => (by cases hq)⟩
    · cases h
  | n + 1, l, bl, hb, h => by
    rw [rdBlks] at h
    split at h
    · cases h
    · rename_i f t hr
      split at h
      · cases h
      · rename_i r hrr
        simp only [Option.some.injEq] at h
        subst h
        obtain ⟨p1, p2, p3, p4⟩ := rdBlk_back hb hr
        obtain ⟨q1, q2, q3, q4⟩ := rdBlks_back n _ r (fun y hy => hb y (List.mem_of_mem_drop hy)) hrr
        refine ⟨by simp [q1], ?_, ?_, ?_⟩
        · rw [show encAll ((l.headD 0, (l.take t).drop f) :: r) = encB (l.headD 0) ((l.take t).drop f) ++ encAll r by simp [encAll], ← p4, ← q2, List.take_append_drop]
        · intro q hq
          rcases List.mem_cons.1 hq with rfl | hq
          · exact p3
          · exact q3 q hq
        · intro q hq
          rcases List.mem_cons.1 hq with rfl | hq
          · refine ⟨?_, fun x hx => hb x (List.mem_of_mem_take (List.mem_of_mem_drop hx))⟩
            cases l with
            | nil => simp at p2
            | cons a l => exact hb a (by simp)
          · exact q4 q hq
theorem rdImg_back {kind : Nat} {l : List Nat} {bl : List (Nat × List Nat)} (hb : ∀ x ∈ l, x < 256) (h : rdImg kind l = some bl) : l = imgP kind bl ∧ (∀ q ∈ bl, q.1 ≠ 0) ∧ (∀ q ∈ bl, q.1 < 256 ∧ ∀ x ∈ q.2, x < 256) := by
  rw [rdImg] at h
  split at h
  · cases h
  · rename_i hlen
    split at h
    · rename_i hw
      split at h
      · cases h
      · rename_i hk
        split at h
        · cases h
        · rename_i n m hr
          have hb2 : ∀ x ∈ (l.take (l.length - 4)).drop 5, x < 256 := fun y hy => hb y (List.mem_of_mem_take (List.mem_of_mem_drop hy))
          obtain ⟨p1, p2, p3, p4, p5, p6⟩ := rdUv_ok _ 0 n m (fun y hy => hb2 y (List.mem_of_mem_take hy)) (by omega) hr
          obtain ⟨q1, q2, q3, q4⟩ := rdBlks_back n _ bl (fun y hy => hb2 y (List.mem_of_mem_drop hy)) h
          refine ⟨?_, q3, q4⟩
          have hm : ((l.take (l.length - 4)).drop 5).take m = uv n := by
            rw [List.take_take] at p5
            rw [← p5]; congr 1
            rw [List.length_take] at p4; omega
          have hq : l.take (l.length - 4) = imgQ kind bl := by
            have h5 : (l.take (l.length - 4)).take 5 = [99, 110, 99, 100] ++ [kind] := by
              have e1 : (l.take (l.length - 4)).take 5 = l.take 5 := by rw [List.take_take]; congr 1; omega
              have e2 : l.take 4 = [99, 110, 99, 100] := Classical.byContradiction fun e => hk (.inr (.inl e))
              have e3 : l[4]? = some kind := Classical.byContradiction fun e => hk (.inr (.inr e))
              rw [e1, take_succ_get e3, e2]
            rw [imgQ, ← h5, q1, ← hm, ← q2, List.append_assoc, List.take_append_drop, List.take_append_drop]
          have e4 : (l.drop (l.length - 4)).take 4 = l.drop (l.length - 4) := List.take_of_length_le (by rw [List.length_drop]; omega)
          rw [imgP, ← hq, ← hw, w32_wordOf (by rw [List.length_drop]; omega) (fun y hy => hb y (List.mem_of_mem_drop hy)), e4, List.take_append_drop]
    · cases h
end Go.Sx
namespace Go.Sx
open Go Go.Proofs
set_option maxRecDepth 100000
set_option linter.unusedSimpArgs false
set_option linter.unusedVariables false

/-! ## Schemas -/
theorem rdText_uv {most : Nat} {q : List Nat} (r : List Nat) (h : q.length ≤ most) (hm : most < 18446744073709551616) : rdText most (uv q.length ++ q ++ r) = .ok (q, (uv q.length).length + q.length) := by
  rw [rdText, List.append_assoc, rdUpto_uv _ (by omega) h]
  simp only []
  rw [if_neg (by simp only [List.length_append]; omega), List.drop_left, List.take_left]
theorem kB_aux : ∀ (k : Fin 4) (a b c : Bool), let x := k.val + (if a then 4 else 0) + (if b then 8 else 0) + (if c then 16 else 0); x &&& 3 = k.val ∧ decide (((x &&& 4 : Nat) : Int) ≠ 0) = a ∧ decide (((x &&& 8 : Nat) : Int) ≠ 0) = b ∧ decide (((x &&& 16 : Nat) : Int) ≠ 0) = c ∧ x ≤ 31 := by decide
theorem mkF_kB {f : FV} (h1 : 0 ≤ f.kind) (h2 : f.kind ≤ 3) : mkF (byts f.name) (kB f) = f ∧ kB f ≤ 31 := by
  have h := kB_aux ⟨f.kind.toNat, by omega⟩ f.fold f.stop f.stem
  obtain ⟨name, kind, a, b, c⟩ := f
  simp only at h h1 h2
  obtain ⟨q1, q2, q3, q4, q5⟩ := h
  simp only [mkF, kB, strB_byts, FV.mk.injEq, true_and]
  exact ⟨⟨by rw [q1]; omega, q2, q3, q4⟩, q5⟩
theorem bB_aux : ∀ k : Fin 32, (k.val &&& 3) + (if decide (((k.val &&& 4 : Nat) : Int) ≠ 0) then 4 else 0) + (if decide (((k.val &&& 8 : Nat) : Int) ≠ 0) then 8 else 0) + (if decide (((k.val &&& 16 : Nat) : Int) ≠ 0) then 16 else 0) = k.val ∧ k.val &&& 3 ≤ 3 := by decide
theorem kB_mkF {q : List Nat} {k : Nat} (h : k ≤ 31) : kB (mkF q k) = k := by
  have := (bB_aux ⟨k, by omega⟩).1
  simp only [kB, mkF, Int.toNat_natCast]
  exact this

theorem encF_eq (f : FV) : encF f = uv (byts f.name).length ++ byts f.name ++ [kB f] := by rw [encF, byts_length]
theorem rdFs_encFs : ∀ (fs : List FV) (r : List Nat), (∀ f ∈ fs, f.name.size ≤ 32 ∧ 0 ≤ f.kind ∧ f.kind ≤ 3) → rdFs fs.length false (encFs fs ++ r) = some (fs, false, (encFs fs).length)
  | [], r, _ => rfl
  | f :: fs, r, h => by
    obtain ⟨h1, h2, h3⟩ := h f (by simp)
    obtain ⟨k1, k2⟩ := mkF_kB h2 h3
    have ih := rdFs_encFs fs r fun g hg => h g (by simp [hg])
    have hl := byts_length f.name
    have he : encFs (f :: fs) ++ r = uv (byts f.name).length ++ byts f.name ++ (kB f :: (encFs fs ++ r)) := by
      simp [encFs, encF_eq]
    have hx : (uv (byts f.name).length ++ byts f.name).length = (uv (byts f.name).length).length + (byts f.name).length := List.length_append
    rw [List.length_cons, rdFs, he, rdText_uv _ (by omega) (by decide)]
    simp only []
    rw [← hx, List.getElem?_append_right (Nat.le_refl _), Nat.sub_self, List.getElem?_cons_zero]
    simp only []
    rw [show (uv (byts f.name).length ++ byts f.name ++ (kB f :: (encFs fs ++ r))).drop ((uv (byts f.name).length ++ byts f.name).length + 1) = encFs fs ++ r by
      rw [← List.drop_drop, List.drop_left, List.drop_succ_cons, List.drop_zero]]
    rw [show (false || decide (31 < kB f)) = false by simp; omega, ih]
    simp only [k1, Option.some.injEq, Prod.mk.injEq, true_and]
    rw [show encFs (f :: fs) = encF f ++ encFs fs by simp [encFs], encF_eq]
    simp only [List.length_append, List.length_cons, List.length_nil]
theorem decS_encS {fs : List FV} (h : chkS fs = true) : decS (encS fs) = some fs := by
  obtain ⟨⟨h1, h2⟩, h3⟩ := chkS_get h
  have hr : rdS (encS fs) = some fs := by
    rw [rdS, encS, rdUpto_uv _ (by omega) h2]
    simp only []
    have := rdFs_encFs fs [] fun f hf => ⟨(h3 f hf).1, by have := (h3 f hf).2.1; omega, (h3 f hf).2.2⟩
    rw [List.append_nil] at this
    rw [List.drop_left, this]
    simp only []
    rw [if_neg (by rw [List.length_append]; simp)]
  rw [decS, hr]
  simp only [h, ↓reduceIte]
theorem rdFs_back : ∀ (n : Nat) (odd : Bool) (l : List Nat) (fs : List FV) (c : Nat), (∀ x ∈ l, x < 256) → rdFs n odd l = some (fs, false, c) → odd = false ∧ fs.length = n ∧ c ≤ l.length ∧ l.take c = encFs fs
  | 0, odd, l, fs, c, hb, h => by
    simp only [rdFs, Option.some.injEq, Prod.mk.injEq] at h
    obtain ⟨rfl, rfl, rfl⟩ := h
    exact ⟨rfl, rfl, Nat.zero_le _, by simp [encFs]⟩
  | n + 1, odd, l, fs, c, hb, h => by
    rw [rdFs] at h
    split at h
    · cases h
    · rename_i q m hr
      obtain ⟨p1, p2, p3, p4⟩ := rdText_ok hb hr
      split at h
      · cases h
      · rename_i k hk
        split at h
        · cases h
        · rename_i r o c' hrr
          simp only [Option.some.injEq, Prod.mk.injEq] at h
          obtain ⟨rfl, rfl, rfl⟩ := h
          obtain ⟨q1, q2, q3, q4⟩ := rdFs_back n _ _ r c' (fun y hy => hb y (List.mem_of_mem_drop hy)) hrr
          simp only [Bool.or_eq_false_iff, decide_eq_false_iff_not] at q1
          have hm := (List.getElem?_eq_some_iff.1 hk).1
          rw [List.length_drop] at q3
          refine ⟨q1.1, by simp [q2], by omega, ?_⟩
          rw [show encFs (mkF q k :: r) = encF (mkF q k) ++ encFs r by simp [encFs], encF_eq, kB_mkF (by omega)]
          have hn : byts (mkF q k).name = q := byts_strB p3
          rw [hn, ← p4, List.take_add, ← q4, take_succ_get hk]
theorem decS_back {l : List Nat} {fs : List FV} (hb : ∀ x ∈ l, x < 256) (h : decS l = some fs) : chkS fs = true ∧ l = encS fs := by
  rw [decS] at h
  split at h
  · cases h
  · rename_i fs' hr
    split at h
    · rename_i hc
      simp only [Option.some.injEq] at h
      subst h
      refine ⟨hc, ?_⟩
      rw [rdS] at hr
      split at hr
      · cases hr
      · rename_i n m hu
        obtain ⟨u1, u2, u3, u4⟩ := rdUpto_ok hb hu
        split at hr
        · cases hr
        · rename_i g odd c hf
          split at hr
          · cases hr
          · rename_i hno
            simp only [Option.some.injEq] at hr
            subst hr
            obtain rfl : odd = false := by
              cases odd with
              | false => rfl
              | true => exact absurd (Or.inr rfl) hno
            obtain ⟨q1, q2, q3, q4⟩ := rdFs_back n _ _ g c (fun y hy => hb y (List.mem_of_mem_drop hy)) hf
            rw [List.length_drop] at q3
            have hcl : m + c = l.length := by
              have : ¬ (m + c < l.length) := fun h => hno (.inl h)
              omega
            have e5 : (l.drop m).take c = l.drop m := List.take_of_length_le (by rw [List.length_drop]; omega)
            rw [encS, q2, ← u3, ← q4, e5, List.take_append_drop]
    · cases h

/-! ## Rising lists -/
theorem rise_cons {x : Int} {l : List Int} : rise (x :: l) = true ↔ (∀ y, l.head? = some y → x < y) ∧ rise l = true := by
  cases l with
  | nil => simp [rise]
  | cons y r => simp [rise]
theorem riseB_len_ge : ∀ (l : List Int) (last : Int), l.length ≤ (riseB last l).length
  | [], _ => by simp
  | x :: l, last => by
    have := riseB_len_ge l x
    have h := uv_pos (x - last - 1).toNat
    rw [riseB, List.length_append, List.length_cons]; omega
theorem rdRis_riseB : ∀ (l : List Int) (last : Int) (r : List Nat), -1 ≤ last → rise (last :: l) = true → (∀ x ∈ l, x ≤ 9223372036854775807) → rdRis l.length last (riseB last l ++ r) = .ok (l, (riseB last l).length)
  | [], last, r, _, _, _ => rfl
  | x :: l, last, r, hl, hr, hb => by
    rw [rise_cons] at hr
    obtain ⟨h1, h2⟩ := hr
    have h3 := h1 x rfl
    have h4 := hb x (by simp)
    have ih := rdRis_riseB l x r (by omega) h2 fun y hy => hb y (by simp [hy])
    rw [List.length_cons, rdRis, riseB, List.append_assoc, rdUv_uv0 _ (by omega)]
    simp only []
    rw [if_neg (by omega), List.drop_left, show last + ((x - last - 1).toNat : Int) + 1 = x by omega, ih]
    simp only [List.length_append]
theorem rdRising_ok {l : List Int} (h1 : below l = false) (h2 : rise l = true) (hb : ∀ x ∈ l, x ≤ 9223372036854775807) (hl : l.length < 18446744073709551616) :
    rdRising (uv l.length ++ riseB (-1) l).length (uv l.length ++ riseB (-1) l) = .ok (l, (uv l.length ++ riseB (-1) l).length) := by
  have hge := riseB_len_ge l (-1)
  rw [rdRising, rdUpto_uv _ hl (by rw [List.length_append]; omega)]
  simp only []
  have h3 : rise (-1 :: l) = true := by
    rw [rise_cons]
    refine ⟨fun y hy => ?_, h2⟩
    have := (below_iff l).1 h1 0 y (by rw [List.head?_eq_getElem?] at hy; exact hy)
    omega
  have := rdRis_riseB l (-1) [] (Int.le_refl _) h3 hb
  rw [List.append_nil] at this
  rw [List.drop_left, this]
  simp only [List.length_append]
theorem rdRis_back : ∀ (n : Nat) (last : Int) (l : List Nat) (d : List Int) (m : Nat), (∀ x ∈ l, x < 256) → -1 ≤ last → rdRis n last l = .ok (d, m) → d.length = n ∧ m ≤ l.length ∧ l.take m = riseB last d ∧ rise (last :: d) = true ∧ (∀ x ∈ d, 0 ≤ x ∧ x ≤ 9223372036854775807)
  | 0, last, l, d, m, hb, hl, h => by
    simp only [rdRis, Except.ok.injEq, Prod.mk.injEq] at h
    obtain ⟨rfl, rfl⟩ := h
    exact ⟨rfl, Nat.zero_le _, by simp [riseB], by simp [rise], fun x hx => by cases hx⟩
  | n + 1, last, l, d, m, hb, hl, h => by
    rw [rdRis] at h
    split at h
    · cases h
    · rename_i v c hu
      split at h
      · cases h
      · rename_i hle
        split at h
        · cases h
        · rename_i r m' hr
          simp only [Except.ok.injEq, Prod.mk.injEq] at h
          obtain ⟨rfl, rfl⟩ := h
          obtain ⟨p1, p2, p3, p4, p5, p6⟩ := rdUv_ok _ 0 v c hb (by omega) hu
          obtain ⟨q1, q2, q3, q4, q5⟩ := rdRis_back n _ _ r m' (fun y hy => hb y (List.mem_of_mem_drop hy)) (by omega) hr
          rw [List.length_drop] at q2
          refine ⟨by simp [q1], by omega, ?_, ?_, ?_⟩
          · rw [riseB, show (last + (v : Int) + 1 - last - 1).toNat = v by omega, ← p5, ← q3, List.take_add]
          · rw [rise_cons]
            exact ⟨fun y hy => by simp at hy; omega, q4⟩
          · intro x hx
            rcases List.mem_cons.1 hx with rfl | hx
            · omega
            · exact q5 x hx
theorem rdRising_back {most : Nat} {l : List Nat} {d : List Int} {m : Nat} (hb : ∀ x ∈ l, x < 256) (h : rdRising most l = .ok (d, m)) : m ≤ l.length ∧ l.take m = uv d.length ++ riseB (-1) d ∧ below d = false ∧ rise d = true ∧ (∀ x ∈ d, 0 ≤ x ∧ x ≤ 9223372036854775807) := by
  rw [rdRising] at h
  split at h
  · cases h
  · rename_i n c hu
    obtain ⟨u1, u2, u3, u4⟩ := rdUpto_ok hb hu
    split at h
    · cases h
    · rename_i r m' hr
      simp only [Except.ok.injEq, Prod.mk.injEq] at h
      obtain ⟨rfl, rfl⟩ := h
      obtain ⟨q1, q2, q3, q4, q5⟩ := rdRis_back n _ _ r m' (fun y hy => hb y (List.mem_of_mem_drop hy)) (Int.le_refl _) hr
      rw [List.length_drop] at q2
      refine ⟨by omega, ?_, (below_iff r).2 fun i x hx => (q5 x (List.mem_of_getElem? hx)).1, (rise_cons.1 q4).2, q5⟩
      rw [q1, ← u3, ← q3, List.take_add]

/-! ## Indexes -/
abbrev Pcs := List (List Nat × List Int)
def packPs : Pcs → Except Nat (List (Nat × List Nat))
  | [] => .ok []
  | p :: r => if below p.2 = true then .error 1 else if rise p.2 = false then .error 5 else
    match packPs r with
    | .error e => .error e
    | .ok bl => .ok ((3, p.1) :: (4, uv p.2.length ++ riseB (-1) p.2) :: bl)
def packE (fs : List FV) (next : Int) (ps : Pcs) : Except Nat (List Nat) :=
  if chkS fs = false then .error 0 else
  if next < 0 ∨ 1099511627776 < next then .error 1 else
  match packPs ps with
  | .error e => .error e
  | .ok bl => .ok (imgP 73 ((1, encS fs) :: (2, uv next.toNat) :: bl))
def rdPs : List (Nat × List Nat) → Option Pcs
  | [] => some []
  | [_] => none
  | a :: b :: r => if a.1 ≠ 3 ∨ b.1 ≠ 4 then none else
    match rdRising b.2.length b.2 with
    | .error _ => none
    | .ok (d, m) => if m < b.2.length then none else
      match rdPs r with
      | none => none
      | some ps => some ((a.2, d) :: ps)
def rdHd (a b : Nat × List Nat) : Option (List FV × Nat) :=
  if a.1 ≠ 1 ∨ b.1 ≠ 2 then none else
  match decS a.2 with
  | none => none
  | some fs =>
    match rdUpto 1099511627776 b.2 with
    | .error _ => none
    | .ok (n, m) => if m < b.2.length then none else some (fs, n)
def unBl : List (Nat × List Nat) → Option (List FV × Nat × Pcs)
  | a :: b :: r => if r.length % 2 ≠ 0 then none else
    match rdHd a b with
    | none => none
    | some (fs, n) =>
      match rdPs r with
      | none => none
      | some ps => some (fs, n, ps)
  | _ => none
def unE (l : List Nat) : Option (List FV × Nat × Pcs) :=
  match rdImg 73 l with
  | none => none
  | some bl => unBl bl

/-- What the pieces hold: bytes and numbers, fewer than 2^60. -/
def OkPs (ps : Pcs) : Prop := ∀ p ∈ ps, (∀ x ∈ p.1, x < 256) ∧ p.1.length ≤ 1000000000 ∧ (∀ x ∈ p.2, x ≤ 9223372036854775807) ∧ p.2.length ≤ 1000000000

theorem packPs_ok : ∀ (ps : Pcs) (bl : List (Nat × List Nat)), OkPs ps → packPs ps = .ok bl → rdPs bl = some ps ∧ bl.length % 2 = 0 ∧ ∀ q ∈ bl, 0 < q.1 ∧ q.1 < 256 ∧ (∀ x ∈ q.2, x < 256) ∧ q.2.length < 18446744073709551616
  | [], bl, _, h => by
    simp only [packPs, Except.ok.injEq] at h
    subst h
    exact ⟨rfl, rfl, fun q hq => by cases hq⟩
  | p :: ps, bl, hk, h => by
    obtain ⟨k1, k2, k3, k4⟩ := hk p (by simp)
    rw [packPs] at h
    split at h
    · cases h
    · rename_i hb
      split at h
      · cases h
      · rename_i hr
        simp only [Bool.not_eq_true, Bool.not_eq_false] at hb hr
        split at h
        · cases h
        · rename_i bl' hp
          simp only [Except.ok.injEq] at h
          subst h
          obtain ⟨q1, q2, q3⟩ := packPs_ok ps bl' (fun p hp => hk p (by simp [hp])) hp
          have hrl := riseB_len hb k3
          have hul := uv_len10 (n := p.2.length) (by omega)
          refine ⟨?_, by simp only [List.length_cons]; omega, ?_⟩
          · rw [rdPs, if_neg (by simp), rdRising_ok hb hr k3 (by omega)]
            simp only [Nat.lt_irrefl, ↓reduceIte, q1]
          · intro q hq
            rcases List.mem_cons.1 hq with rfl | hq
            · exact ⟨by simp, by simp, k1, by simp only; omega⟩
            · rcases List.mem_cons.1 hq with rfl | hq
              · refine ⟨by simp, by simp, ?_, by simp only [List.length_append]; omega⟩
                intro x hx
                rcases List.mem_append.1 hx with hx | hx
                · exact uv_lt _ x hx
                · have : ∀ (l : List Int) (last : Int), ∀ x ∈ riseB last l, x < 256 := by
                    intro l
                    induction l with
                    | nil => intro last x hx; cases hx
                    | cons y l ih =>
                      intro last x hx
                      rw [riseB] at hx
                      rcases List.mem_append.1 hx with hx | hx
                      · exact uv_lt _ x hx
                      · exact ih y x hx
                  exact this _ _ x hx
              · exact q3 q hq
theorem encS_lt {fs : List FV} (h : chkS fs = true) : ∀ x ∈ encS fs, x < 256 := by
  obtain ⟨h1, h2⟩ := chkS_get h
  intro x hx
  rcases List.mem_append.1 hx with hx | hx
  · exact uv_lt _ x hx
  · obtain ⟨f, hf, hx⟩ := List.mem_flatMap.1 hx
    obtain ⟨k1, k2, k3⟩ := h2 f hf
    simp only [encF, List.mem_append, List.mem_singleton] at hx
    rcases hx with (hx | hx) | rfl
    · exact uv_lt _ x hx
    · exact byts_lt _ x hx
    · have := (mkF_kB (f := f) (by omega) k3).2; omega
theorem encFs_len : ∀ (fs : List FV), (∀ f ∈ fs, f.name.size ≤ 32) → (encFs fs).length ≤ 43 * fs.length
  | [], _ => by simp [encFs]
  | f :: fs, h => by
    have ih := encFs_len fs fun g hg => h g (by simp [hg])
    have h1 := h f (by simp)
    have h2 := uv_len10 (n := f.name.size) (by omega)
    have h3 := byts_length f.name
    rw [show encFs (f :: fs) = encF f ++ encFs fs by simp [encFs], encF]
    simp only [List.length_append, List.length_cons, List.length_nil]; omega
theorem encS_len {fs : List FV} (h : chkS fs = true) : (encS fs).length ≤ 1000 := by
  obtain ⟨h1, h2⟩ := chkS_get h
  have h3 := encFs_len fs fun f hf => (h2 f hf).1
  have h4 := uv_len10 (n := fs.length) (by omega)
  rw [encS, List.length_append]; omega
theorem un_pack {fs : List FV} {next : Int} {ps : Pcs} {img : List Nat} (hk : OkPs ps) (hn : ps.length ≤ 1000000000) (h : packE fs next ps = .ok img) : unE img = some (fs, next.toNat, ps) ∧ 0 ≤ next ∧ next ≤ 1099511627776 ∧ chkS fs = true := by
  rw [packE] at h
  split at h
  · cases h
  · rename_i hc
    simp only [Bool.not_eq_false] at hc
    split at h
    · cases h
    · rename_i hx
      split at h
      · cases h
      · rename_i bl hp
        simp only [Except.ok.injEq] at h
        subst h
        obtain ⟨q1, q2, q3⟩ := packPs_ok ps bl hk hp
        have hes := encS_len hc
        have hun := uv_len10 (n := next.toNat) (by omega)
        have hbl : bl.length = 2 * ps.length := by
          have : ∀ (ps : Pcs) (bl : List (Nat × List Nat)), packPs ps = .ok bl → bl.length = 2 * ps.length := by
            intro ps
            induction ps with
            | nil => intro bl h; simp only [packPs, Except.ok.injEq] at h; subst h; rfl
            | cons p ps ih =>
              intro bl h
              rw [packPs] at h
              split at h
              · cases h
              · split at h
                · cases h
                · split at h
                  · cases h
                  · rename_i bl' hp
                    simp only [Except.ok.injEq] at h
                    subst h
                    have := ih bl' hp
                    simp only [List.length_cons]; omega
          exact this ps bl hp
        have hall : ∀ q ∈ (1, encS fs) :: (2, uv next.toNat) :: bl, 0 < q.1 ∧ q.1 < 256 ∧ (∀ x ∈ q.2, x < 256) ∧ q.2.length < 18446744073709551616 := by
          intro q hq
          rcases List.mem_cons.1 hq with rfl | hq
          · exact ⟨by simp, by simp, encS_lt hc, by simp only; omega⟩
          · rcases List.mem_cons.1 hq with rfl | hq
            · exact ⟨by simp, by simp, uv_lt _, by simp only; omega⟩
            · exact q3 q hq
        have hrd := rdImg_imgP (kind := 73) (by decide) (by decide) (by simp only [List.length_cons]; omega) hall
        refine ⟨?_, by omega, by omega, hc⟩
        rw [unE, hrd]
        simp only [unBl]
        rw [if_neg (by omega)]
        have hu := rdUpto_uv (most := 1099511627776) (v := next.toNat) [] (by omega) (by omega)
        rw [List.append_nil] at hu
        rw [rdHd, if_neg (by simp), decS_encS hc, hu]
        simp only [Nat.lt_irrefl, ↓reduceIte, q1]
theorem rdPs_back : ∀ (bl : List (Nat × List Nat)) (ps : Pcs), (∀ q ∈ bl, ∀ x ∈ q.2, x < 256) → rdPs bl = some ps → packPs ps = .ok bl
  | [], ps, _, h => by simp only [rdPs, Option.some.injEq] at h; subst h; rfl
  | [_], ps, _, h => by cases h
  | a :: b :: r, ps, hb, h => by
    rw [rdPs] at h
    split at h
    · cases h
    · rename_i hab
      split at h
      · cases h
      · rename_i d m hr
        split at h
        · cases h
        · rename_i hm
          split at h
          · cases h
          · rename_i ps' hp
            simp only [Option.some.injEq] at h
            subst h
            have ih := rdPs_back r ps' (fun q hq => hb q (by simp [hq])) hp
            obtain ⟨q1, q2, q3, q4, q5⟩ := rdRising_back (fun x hx => hb b (by simp) x hx) hr
            have ha1 : a.1 = 3 := Classical.byContradiction fun e => hab (.inl e)
            have hb1 : b.1 = 4 := Classical.byContradiction fun e => hab (.inr e)
            rw [List.take_of_length_le (by omega)] at q2
            obtain ⟨a1, a2⟩ := a
            obtain ⟨b1, b2⟩ := b
            simp only at ha1 hb1 q2
            subst ha1 hb1
            simp only [packPs, q3, q4, ih, ← q2, Bool.false_eq_true, Bool.true_eq_false, ↓reduceIte]
theorem pack_un {l : List Nat} {fs : List FV} {n : Nat} {ps : Pcs} (hb : ∀ x ∈ l, x < 256) (h : unE l = some (fs, n, ps)) : packE fs n ps = .ok l := by
  rw [unE] at h
  split at h
  · cases h
  · rename_i bl hi
    obtain ⟨e1, e2, e3⟩ := rdImg_back hb hi
    match bl, e1, e3, h with
    | a :: b :: r, e1, e3, h =>
      simp only [unBl] at h
      split at h
      · cases h
      · split at h
        · cases h
        · rename_i fs' n' hh
          split at h
          · cases h
          · rename_i ps' hp
            simp only [Option.some.injEq, Prod.mk.injEq] at h
            obtain ⟨rfl, rfl, rfl⟩ := h
            have hps := rdPs_back r ps' (fun q hq => (e3 q (by simp [hq])).2) hp
            rw [rdHd] at hh
            split at hh
            · cases hh
            · rename_i hab
              split at hh
              · cases hh
              · rename_i fs'' hd
                split at hh
                · cases hh
                · rename_i n'' m hu
                  split at hh
                  · cases hh
                  · rename_i hm
                    simp only [Option.some.injEq, Prod.mk.injEq] at hh
                    obtain ⟨rfl, rfl⟩ := hh
                    obtain ⟨d1, d2⟩ := decS_back (fun x hx => (e3 a (by simp)).2 x hx) hd
                    obtain ⟨u1, u2, u3, u4⟩ := rdUpto_ok (fun x hx => (e3 b (by simp)).2 x hx) hu
                    rw [List.take_of_length_le (by omega)] at u3
                    have ha1 : a.1 = 1 := Classical.byContradiction fun e => hab (.inl e)
                    have hb1 : b.1 = 2 := Classical.byContradiction fun e => hab (.inr e)
                    obtain ⟨a1, a2⟩ := a
                    obtain ⟨b1, b2⟩ := b
                    simp only at ha1 hb1 d2 u3
                    subst ha1 hb1
                    rw [packE, d1, if_neg (by simp), if_neg (by omega), hps]
                    simp only [Int.toNat_natCast, ← d2, ← u3]
                    rw [e1]

/-! ## One byte turned -/
theorem bs_inj {p r s : Nat} (hp : 2147483648 ≤ p) (hr : r < 4294967296) (hs : s < 4294967296) (h : bs p r = bs p s) : r = s := by
  unfold bs at h
  have hx : ∀ a b : Nat, a < 2147483648 → b < 2147483648 → a ^^^ p ≠ b := by
    intro a b ha hb e
    have : p = a ^^^ b := by rw [← e, ← Nat.xor_assoc, Nat.xor_self, Nat.zero_xor]
    have h2 : a ^^^ b < 2147483648 := Nat.xor_lt_two_pow (n := 31) ha hb
    omega
  split at h <;> split at h
  · have : r / 2 = s / 2 := by
      have h3 := congrArg (· ^^^ p) h
      simp only [Nat.xor_assoc, Nat.xor_self, Nat.xor_zero] at h3
      exact h3
    omega
  · exact absurd h (hx _ _ (by omega) (by omega))
  · exact absurd h.symm (hx _ _ (by omega) (by omega))
  · omega
theorem bs4_inj {p r s : Nat} (hp : 2147483648 ≤ p) (hp2 : p < 4294967296) (hr : r < 4294967296) (hs : s < 4294967296) (h : bs4 p r = bs4 p s) : r = s := by
  unfold bs4 at h
  have l1 := fun {x : Nat} (h : x < 4294967296) => bs_lt hp2 h
  exact bs_inj hp hr hs (bs_inj hp (l1 hr) (l1 hs) (bs_inj hp (l1 (l1 hr)) (l1 (l1 hs)) (bs_inj hp (l1 (l1 (l1 hr))) (l1 (l1 (l1 hs))) h)))
theorem xor_inj_left {a b c : Nat} (h : a ^^^ b = a ^^^ c) : b = c := by
  have := congrArg (a ^^^ ·) h
  simpa only [← Nat.xor_assoc, Nat.xor_self, Nat.zero_xor] using this
theorem crcB_inj {p r s x : Nat} (hp : 2147483648 ≤ p) (hp2 : p < 4294967296) (hr : r < 4294967296) (hs : s < 4294967296) (hx : x < 256) (h : crcB p r x = crcB p s x) : r = s := by
  have h1 := bs4_inj hp hp2 (bs4_lt hp2 (xor_lt hr (by omega))) (bs4_lt hp2 (xor_lt hs (by omega))) h
  have h2 := bs4_inj hp hp2 (xor_lt hr (by omega)) (xor_lt hs (by omega)) h1
  rw [Nat.xor_comm r, Nat.xor_comm s] at h2
  exact xor_inj_left h2
theorem crcB_inj2 {p r x y : Nat} (hp : 2147483648 ≤ p) (hp2 : p < 4294967296) (hr : r < 4294967296) (hx : x < 256) (hy : y < 256) (h : crcB p r x = crcB p r y) : x = y := by
  have h1 := bs4_inj hp hp2 (bs4_lt hp2 (xor_lt hr (by omega))) (bs4_lt hp2 (xor_lt hr (by omega))) h
  exact xor_inj_left (bs4_inj hp hp2 (xor_lt hr (by omega)) (xor_lt hr (by omega)) h1)
theorem crcR_inj {p : Nat} (hp : 2147483648 ≤ p) (hp2 : p < 4294967296) : ∀ (l : List Nat) (r s : Nat), r < 4294967296 → s < 4294967296 → (∀ x ∈ l, x < 256) → crcR p r l = crcR p s l → r = s
  | [], r, s, _, _, _, h => h
  | x :: l, r, s, hr, hs, hb, h => by
    have hx := hb x (by simp)
    exact crcB_inj hp hp2 hr hs hx (crcR_inj hp hp2 l _ _ (crcB_lt hp2 hr hx) (crcB_lt hp2 hs hx) (fun y hy => hb y (by simp [hy])) h)
theorem crcR_append (p r : Nat) (a b : List Nat) : crcR p r (a ++ b) = crcR p (crcR p r a) b := by simp [crcR]
theorem sealS_turn {a b : List Nat} {x y : Nat} (hb : ∀ z ∈ a ++ b, z < 256) (hx : x < 256) (hy : y < 256) (hne : x ≠ y) : sealS (a ++ x :: b) ≠ sealS (a ++ y :: b) := by
  intro h
  have h1 := xor_inj_left h
  rw [crcR_append, crcR_append] at h1
  have hr : crcR sealP 4294967295 a < 4294967296 := crcR_lt (by decide) a _ (by decide) fun z hz => hb z (by simp [hz])
  have h2 := crcR_inj (p := sealP) (by decide) (by decide) b _ _ (crcB_lt (by decide) hr hx) (crcB_lt (by decide) hr hy) (fun z hz => hb z (by simp [hz])) h1
  exact hne (crcB_inj2 (by decide) (by decide) hr hx hy h2)
/-- What one byte's turn makes of an image. -/
theorem rdImg_turn {kind : Nat} {l : List Nat} {bl : List (Nat × List Nat)} {i y : Nat} (hb : ∀ x ∈ l, x < 256) (h : rdImg kind l = some bl) (hi : i < l.length) (hy : y < 256) (hne : l[i]? ≠ some y) : rdImg kind (l.set i y) = none := by
  have hw : 10 ≤ l.length ∧ wordOf (l.drop (l.length - 4)) = sealS (l.take (l.length - 4)) := by
    rw [rdImg] at h
    split at h
    · cases h
    · split at h
      · exact ⟨by omega, by assumption⟩
      · cases h
  obtain ⟨hlen, hw⟩ := hw
  obtain ⟨x, hx⟩ : ∃ x, l[i]? = some x := ⟨_, List.getElem?_eq_getElem hi⟩
  have hxb := hb x (List.mem_of_getElem? hx)
  have hxy : x ≠ y := fun e => hne (by rw [hx, e])
  have hno : wordOf ((l.set i y).drop (l.length - 4)) ≠ sealS ((l.set i y).take (l.length - 4)) := by
    by_cases hc : i < l.length - 4
    · rw [List.drop_set_of_lt hc, hw, List.take_set]
      have hxi : (l.take (l.length - 4))[i]? = some x := by rw [List.getElem?_take_of_lt hc, hx]
      have hil : i < (l.take (l.length - 4)).length := by rw [List.length_take]; omega
      have e1 : l.take (l.length - 4) = (l.take (l.length - 4)).take i ++ x :: (l.take (l.length - 4)).drop (i + 1) := by
        rw [← drop_get hxi, List.take_append_drop]
      have e2 : (l.take (l.length - 4)).set i y = (l.take (l.length - 4)).take i ++ y :: (l.take (l.length - 4)).drop (i + 1) := by
        rw [List.set_eq_take_append_cons_drop, if_pos hil]
      rw [e2]
      conv => lhs; rw [e1]
      refine sealS_turn ?_ hxb hy hxy
      intro z hz
      rcases List.mem_append.1 hz with hz | hz
      · exact hb z (List.mem_of_mem_take (List.mem_of_mem_take hz))
      · exact hb z (List.mem_of_mem_take (List.mem_of_mem_drop hz))
    · have e1 : (l.set i y).take (l.length - 4) = l.take (l.length - 4) := by rw [List.take_set_of_le (by omega)]
      rw [e1, ← hw]
      intro h
      have h1 : ∀ {q : List Nat}, q.length = 4 → (∀ x ∈ q, x < 256) → w32 (wordOf q) = q := fun {q} hq hb => by
        rw [w32_wordOf (by omega) hb, List.take_of_length_le (by omega)]
      have h2 := congrArg w32 h
      rw [h1 (by rw [List.length_drop, List.length_set]; omega) (fun z hz => by
          rcases List.mem_or_eq_of_mem_set (List.mem_of_mem_drop hz) with hz | rfl
          · exact hb z hz
          · exact hy), h1 (by rw [List.length_drop]; omega) (fun z hz => hb z (List.mem_of_mem_drop hz))] at h2
      have h3 := congrArg (fun q => q[i - (l.length - 4)]?) h2
      simp only [List.getElem?_drop] at h3
      rw [show l.length - 4 + (i - (l.length - 4)) = i by omega, List.getElem?_set_self hi, hx] at h3
      exact hxy (Option.some.inj h3).symm
  rw [rdImg, if_neg (by rw [List.length_set]; omega), List.length_set, if_neg hno]
end Go.Sx
