import Derived.Test.YtcbidldebfibkaaGreatDoorW38
set_option linter.unusedVariables false
set_option linter.unusedSimpArgs false
set_option linter.unusedSectionVars false
set_option linter.unnecessarySimpa false
namespace Go.Sx
open Go Go.Proofs
set_option maxRecDepth 100000
set_option linter.unusedSimpArgs false
set_option linter.unusedVariables false
/-! ## StoreMemory: memory put together and apart -/
theorem hsub_pre {A B C : Heap} (h : HSub B C) : HSub (A ++ B) (A ++ C) := by
  induction A with
  | nil => exact h
  | cons a A ih => exact HSub.keep ih
theorem zip_snoc {α β : Type} {xs : List α} {ys : List β} {x : α} {y : β} (h : ys[xs.length]? = some y) : (xs ++ [x]).zip ys = xs.zip ys ++ [(x, y)] := by
  induction xs generalizing ys with
  | nil =>
    cases ys with
    | nil => simp at h
    | cons a ys => simp at h; subst h; simp
  | cons b xs ih =>
    cases ys with
    | nil => simp at h
    | cons a ys =>
      simp only [List.length_cons, List.getElem?_cons_succ] at h
      simp only [List.cons_append, List.zip_cons_cons, ih h]
/-- A piece in longer rows. -/
def memF (x : (SV × SV) × (List Nat × List Int)) : Heap := [Row x.1.1 eB (x.2.1 ++ mkB 80), Row x.1.2 eI (x.2.2 ++ mkI 80)]
/-- The head of a slice. -/
def SV.hd (s : SV) (n : Nat) : SV := s.cut 1 0 n
theorem hd_n (s : SV) (n : Nat) : (s.hd n).n = n := rfl
theorem hd_c (s : SV) (n : Nat) : (s.hd n).c = s.c := Nat.sub_zero _
theorem hd_a (s : SV) (n : Nat) : (s.hd n).a = s.a := by
  unfold SV.hd SV.cut
  simp only
  split
  · rfl
  · cases s.a with
    | none => rfl
    | some a => cases a; simp [Addr.add]
theorem hd_slB {H : Heap} {s : SV} {xs ys : List Nat} (h : Sl H s eB (xs ++ ys)) : Sl H (s.hd xs.length) eB xs := by
  have := Sl.cut (e := eB) h (lo := 0) (hi := xs.length) (Nat.zero_le _) (by rw [List.length_append]; omega)
  rw [List.drop_zero, List.take_left'] at this
  · exact this
  · rfl
theorem hd_slI {H : Heap} {s : SV} {xs ys : List Int} (h : Sl H s eI (xs ++ ys)) : Sl H (s.hd xs.length) eI xs := by
  have := Sl.cut (e := eI) h (lo := 0) (hi := xs.length) (Nat.zero_le _) (by rw [List.length_append]; omega)
  rw [List.drop_zero, List.take_left'] at this
  · exact this
  · rfl
def pv (x : SV × SV) (q : List Nat × List Int) : SV × SV := (x.1.hd q.1.length, x.2.hd q.2.length)
theorem mem_pc (x : (SV × SV) × (List Nat × List Int)) : HSub (memF x) (pcF (pv x.1 x.2, x.2)) :=
  HSub.imp (fun _ h => Row.pre h (hd_a _ _) (hd_c _ _) rfl) (HSub.imp (fun _ h => Row.pre h (hd_a _ _) (hd_c _ _) rfl) Ka)
/-- What is known of the pieces that are handed in. -/
structure Lq (fl : List (SV × SV)) (ps : Pcs) (lq : List (SV × SV)) : Prop where
  l1 : lq.length = ps.length
  at_ : ∀ (j : Nat) (x : SV × SV) (q : List Nat × List Int), fl[j]? = some x → ps[j]? = some q → lq[j]? = some (pv x q)
theorem Lq.zip {fl : List (SV × SV)} {ps : Pcs} {lq : List (SV × SV)} (h : Lq fl ps lq) (hl : fl.length = ps.length) : (fl.zip ps).map (fun x => (pv x.1 x.2, x.2)) = lq.zip ps := by
  apply List.ext_getElem?
  intro j
  rw [List.getElem?_map]
  by_cases hj : j < ps.length
  · obtain ⟨q, hq⟩ : ∃ q, ps[j]? = some q := ⟨_, List.getElem?_eq_getElem hj⟩
    obtain ⟨x, hx⟩ : ∃ x, fl[j]? = some x := ⟨_, List.getElem?_eq_getElem (by omega)⟩
    rw [(List.getElem?_zip_eq_some (z := (x, q))).2 ⟨hx, hq⟩, (List.getElem?_zip_eq_some (z := (pv x q, q))).2 ⟨h.at_ j x q hx hq, hq⟩]
    rfl
  · rw [List.getElem?_eq_none (by simp; omega), List.getElem?_eq_none (by simp; omega)]; rfl
theorem Lq.mem {fl : List (SV × SV)} {ps : Pcs} {lq : List (SV × SV)} (h : Lq fl ps lq) (hl : fl.length = ps.length) {R : Heap} : HSub (Cl memF (fl.zip ps) :: R) (Cl pcF (lq.zip ps) :: R) := by
  rw [← h.zip hl]
  exact cl_map fun x _ => mem_pc x
theorem Lq.snoc {fl : List (SV × SV)} {ps : Pcs} {lq : List (SV × SV)} (h : Lq fl ps lq) {x : SV × SV} {q : List Nat × List Int} (hq : ps[fl.length]? = some q) : Lq (fl ++ [x]) ps (lq.set fl.length (pv x q)) := by
  refine ⟨by rw [List.length_set]; exact h.l1, fun j y r hy hr => ?_⟩
  have hlt := (List.getElem?_eq_some_iff.1 hq).1
  by_cases hj : j = fl.length
  · subst hj
    rw [List.getElem?_append_right (Nat.le_refl _), Nat.sub_self] at hy
    simp at hy; subst hy
    rw [hq] at hr; cases hr
    rw [List.getElem?_set_self (by rw [h.l1]; exact hlt)]
  · have hjl := (List.getElem?_eq_some_iff.1 hy).1
    rw [List.length_append, List.length_singleton] at hjl
    rw [List.getElem?_append_left (by omega)] at hy
    rw [List.getElem?_set_ne (by omega)]
    exact h.at_ j y r hy hr
theorem own_in {lp : List (SV × SV)} {ps : Pcs} (hl : lp.length = ps.length) {R : Heap} : PsIn (Cl pcF (lp.zip ps) :: R) lp ps := by
  refine ⟨hl, fun i p q hp hq => ?_⟩
  have hz : (lp.zip ps)[i]? = some (p, q) := (List.getElem?_zip_eq_some (z := (p, q))).2 ⟨hp, hq⟩
  exact ⟨cl_sl (f := pcF) hz fun R => (inferInstance : Sl (Row p.1 eB q.1 :: Row p.2 eI q.2 :: R) p.1 eB q.1), cl_sl (f := pcF) hz fun R => (Sl.tail : Sl (Row p.1 eB q.1 :: Row p.2 eI q.2 :: R) p.2 eI q.2)⟩
theorem mem_at {fl : List (SV × SV)} {ps : Pcs} {i : Nat} {x : SV × SV} {q : List Nat × List Int} (hx : fl[i]? = some x) (hq : ps[i]? = some q) {R : Heap} : Sl (Cl memF (fl.zip ps) :: R) x.1 eB (q.1 ++ mkB 80) ∧ Sl (Cl memF (fl.zip ps) :: R) x.2 eI (q.2 ++ mkI 80) := by
  have hz : (fl.zip ps)[i]? = some (x, q) := (List.getElem?_zip_eq_some (z := (x, q))).2 ⟨hx, hq⟩
  exact ⟨cl_sl (f := memF) hz fun R => (inferInstance : Sl (Row x.1 eB (q.1 ++ mkB 80) :: Row x.2 eI (q.2 ++ mkI 80) :: R) x.1 eB _), cl_sl (f := memF) hz fun R => (Sl.tail : Sl (Row x.1 eB (q.1 ++ mkB 80) :: Row x.2 eI (q.2 ++ mkI 80) :: R) x.2 eI _)⟩
theorem Lq.in_ {fl : List (SV × SV)} {ps : Pcs} {lq : List (SV × SV)} (h : Lq fl ps lq) (hl : fl.length = ps.length) {R : Heap} : PsIn (Cl memF (fl.zip ps) :: R) lq ps := by
  refine ⟨h.l1, fun i p q hp hq => ?_⟩
  have hi := (List.getElem?_eq_some_iff.1 hq).1
  obtain ⟨x, hx⟩ : ∃ x, fl[i]? = some x := ⟨_, List.getElem?_eq_getElem (by omega)⟩
  have e := h.at_ i x q hx hq
  rw [hp] at e
  obtain rfl := Option.some.inj e
  obtain ⟨h1, h2⟩ := mem_at (R := R) hx hq
  exact ⟨hd_slB h1, hd_slI h2⟩
theorem nil_in {H : Heap} (n : Nat) : PsIn H (List.replicate n (SV.nil, SV.nil)) (List.replicate n ([], [])) := by
  refine ⟨by simp, fun i p q hp hq => ?_⟩
  obtain rfl := (List.mem_replicate.1 (List.mem_of_getElem? hp)).2
  obtain rfl := (List.mem_replicate.1 (List.mem_of_getElem? hq)).2
  exact ⟨⟨fun _ _ => ⟨rfl, Nat.le_refl _, .inl ⟨rfl, rfl⟩⟩⟩, ⟨fun _ _ => ⟨rfl, Nat.le_refl _, .inl ⟨rfl, rfl⟩⟩⟩⟩
theorem nil_ok (n : Nat) : OkPs (List.replicate n ([], [])) := by
  intro p hp
  obtain rfl := (List.mem_replicate.1 hp).2
  refine ⟨?_, Nat.zero_le _, ?_, Nat.zero_le _⟩
  · intro x hx; cases hx
  · intro x hx; cases hx
theorem nil_len (n : Nat) : psLen (List.replicate n ([], [])) ≤ 100 * n := by
  induction n with
  | zero => simp [psLen]
  | succ n ih =>
    rw [List.replicate_succ, psLen, List.map_cons, List.sum_cons, ← psLen]
    simp only [List.length_nil]
    omega
/-- The rows of bytes, the rows of numbers. -/
theorem pc_split {l : List ((SV × SV) × (List Nat × List Int))} {R : Heap} : HSub (Cl pcF l :: R) (Cl rwB (l.map fun x => (x.1.1, x.2.1)) :: Cl rwI (l.map fun x => (x.1.2, x.2.2)) :: R) := by
  refine HSub.unstar.trans (HSub.trans ?_ (HSub.star (HSub.star Ka)))
  rw [← List.append_assoc]
  refine HSub.frame (HSub.perm ?_)
  induction l with
  | nil => simp
  | cons x l ih =>
    rw [List.map_cons, List.map_cons, List.flatMap_cons, List.flatMap_cons, List.flatMap_cons]
    show (Row x.1.1 eB x.2.1 :: Row x.1.2 eI x.2.2 :: l.flatMap pcF).Perm (Row x.1.1 eB x.2.1 :: ((l.map fun x => (x.1.1, x.2.1)).flatMap rwB ++ Row x.1.2 eI x.2.2 :: (l.map fun x => (x.1.2, x.2.2)).flatMap rwI))
    exact ((ih.cons _).trans List.perm_middle.symm).cons _
theorem pc_join : ∀ {lp : List (SV × SV)} {zb : List (SV × List Nat)} {zi : List (SV × List Int)} {R : Heap}, zb.map (·.1) = lp.map (·.1) → zi.map (·.1) = lp.map (·.2) → HSub (Cl rwB zb :: Cl rwI zi :: R) (Cl pcF (lp.zip ((zb.map (·.2)).zip (zi.map (·.2)))) :: R) := by
  intro lp zb zi R hb hi
  refine (HSub.unstar.trans (hsub_pre HSub.unstar)).trans (HSub.trans ?_ (HSub.star Ka))
  rw [← List.append_assoc]
  refine HSub.frame (HSub.perm ?_)
  induction lp generalizing zb zi with
  | nil =>
    obtain rfl := List.map_eq_nil_iff.1 hb
    obtain rfl := List.map_eq_nil_iff.1 hi
    simp
  | cons p lp ih =>
    match zb, zi, hb, hi with
    | x :: zb, y :: zi, hb, hi =>
      simp only [List.map_cons, List.cons.injEq] at hb hi
      have h := ih hb.2 hi.2
      simp only [List.map_cons, List.zip_cons_cons, List.flatMap_cons]
      show (Row x.1 eB x.2 :: (zb.flatMap rwB ++ Row y.1 eI y.2 :: zi.flatMap rwI)).Perm (Row p.1 eB x.2 :: Row p.2 eI y.2 :: (lp.zip ((zb.map (·.2)).zip (zi.map (·.2)))).flatMap pcF)
      rw [← hb.1, ← hi.1]
      exact (List.perm_middle.trans (h.cons _)).cons _
theorem cl_sub {ι : Type} {f : ι → Heap} {l l' : List ι} {R : Heap} (h : l'.Sublist l) : HSub (Cl f l :: R) (Cl f l' :: R) := by
  refine HSub.unstar.trans (HSub.trans (HSub.frame (F' := l'.flatMap f) (HSub.sublist ?_)) (HSub.star Ka))
  induction h with
  | slnil => exact List.Sublist.refl _
  | cons a _ ih => rw [List.flatMap_cons]; exact ih.trans (List.sublist_append_right _ _)
  | cons_cons a _ ih => rw [List.flatMap_cons, List.flatMap_cons]; exact (List.Sublist.refl _).append ih
/-- An index as an element. -/
def eX : Enc (SV × Int × SV) := ⟨fun x => [x.1.val, .int .i64 x.2.1, x.2.2.val], 3, true, fun _ => rfl, (by intro _ v h; simp at h; rcases h with rfl | rfl | rfl <;> rfl), by decide, (by intro h; cases h), by decide⟩
instance {a b : SV} {n : Int} : EncV eX (.agg [a.val, .int .i64 n, b.val].toArray) (a, n, b) := ⟨rfl⟩
instance {p : SV × Int × SV} : EncW eX p (.agg [p.1.val, .int .i64 p.2.1, p.2.2.val].toArray) := ⟨rfl⟩
theorem un_head {xs : List Nat} (h : xs[0]? ≠ some 99) : unE xs = none := by
  have : rdImg 73 xs = none := by
    rw [rdImg]
    split
    · rfl
    · split
      · rw [if_pos]
        refine .inr (.inl fun e => h ?_)
        have := congrArg (fun l => l[0]?) e
        simpa using this
      · rfl
  rw [unE, this]
theorem un_first {xs : List Nat} {r : List FV × Nat × Pcs} (h : unE xs = some r) : xs[0]? = some 99 := by
  by_cases h2 : xs[0]? = some 99
  · exact h2
  · rw [un_head h2] at h; cases h
theorem cl_cons {ι : Type} {f : ι → Heap} {l : List ι} {R : Heap} (y : ι) : HSub (f y ++ (Cl f l :: R)) (Cl f (y :: l) :: R) :=
  HSub.trans (hsub_pre (HSub.clNil Ka)) (cl_glue (l := []) (l' := l))
/-- What Pack answers, as a number and as an error. -/
def numX : Except Nat (List Nat) → Int
  | .error e => numE e
  | .ok _ => 0
def imgX : Except Nat (List Nat) → List Nat
  | .error _ => []
  | .ok i => i
def errX (G : Base) : Except Nat (List Nat) → Value
  | .error e => G.err e
  | .ok _ => .nilIface
section
variable {G : Base} {H : Heap} {sf sp s : SV} {fs : List FV} {lp : List (SV × SV)} {ps : Pcs} {next : Int} {xs : List Nat}
theorem refPackX [Sl H sf eF fs] [hsp : Sl H sp eP lp] (hP : PsIn H lp ps) (hk : OkPs ps) (hn : fs.length ≤ 1000000000) (hf : ∀ f ∈ fs, f.name.size ≤ 1000000000000) (hpl : ps.length ≤ 100000000) (hsum : psLen ps ≤ 900000000) :
    SC G Tryz.prog 9 [.agg [sf.val, .int .i64 next, sp.val].toArray] H (fun v H' => ∃ s' : SV, v = .tuple #[s'.val, .int .i64 (numX (packE fs next ps))] ∧ H' = Row s' eB (imgX (packE fs next ps)) :: H) :=
  SC.out ((refPack hP hk hn hf hpl hsum).mono fun v H' h => by
    rcases h with ⟨e', he', h1, h2, _⟩ | ⟨img, s', he', h1, h2⟩
    · rw [he', h1, h2]; exact ⟨_, Ki Ka, SV.nil, rfl, rfl⟩
    · rw [he', h1, h2]; exact ⟨_, Ka, s', rfl, rfl⟩)
theorem stPackX [hg : Glb G H] [Tab H 26 zipT] [Tab H 24 sealT] [Sl H sf eF fs] [hsp : Sl H sp eP lp] (hP : PsIn H lp ps) (hk : OkPs ps) (hn : fs.length ≤ 1000000000) (hf : ∀ f ∈ fs, f.name.size ≤ 1000000000000) (hpl : ps.length ≤ 100000000) (hsum : psLen ps ≤ 900000000) :
    SC G Tryz.prog 11 [.agg [sf.val, .int .i64 next, sp.val].toArray] H (fun v H' => ∃ s' : SV, v = .tuple #[s'.val, errX G (packE fs next ps)] ∧ H' = Row s' eB (imgX (packE fs next ps)) :: H) :=
  SC.out ((stPack hP hk hn hf hpl hsum).mono fun v H' h => by
    rcases h with ⟨e', he', h1, h2⟩ | ⟨img, s', he', h1, h2⟩
    · rw [he', h1, h2]; exact ⟨_, Ki Ka, SV.nil, rfl, rfl⟩
    · rw [he', h1, h2]; exact ⟨_, Ka, s', rfl, rfl⟩)
theorem numPackX [hg : Glb G H] [ErrT G] : SC G Tryz.prog 12 [errX G (packE fs next ps)] H (fun v H' => v = .int .i64 (numX (packE fs next ps)) ∧ H' = H) := by
  cases h : packE fs next ps with
  | error e =>
    haveI : Lt24 e := ⟨packE_lt h⟩
    exact numErr e
  | ok i => exact numNil
end
theorem zip_map1 {α β γ : Type} {xs : List α} {ys : List β} (h : xs.length = ys.length) (g : α → γ) : (xs.zip ys).map (fun x => g x.1) = xs.map g := by
  rw [show (fun x : α × β => g x.1) = g ∘ Prod.fst from rfl, ← List.map_map, List.map_fst_zip (by omega)]
theorem map_at {α β : Type} {xs : List α} {ys : List β} {f : α → β} (hl : ys.length = xs.length) (h : ∀ (j : Nat) (x : α), xs[j]? = some x → ys[j]? = some (f x)) : ys = xs.map f := by
  apply List.ext_getElem?
  intro j
  rw [List.getElem?_map]
  cases hj : xs[j]? with
  | none => rw [List.getElem?_eq_none (by have := List.getElem?_eq_none_iff.1 hj; omega)]; rfl
  | some x => rw [h j x hj]; rfl
/-- The rows of an index, written over. -/
theorem ready {lp : List (SV × SV)} {zb : List (SV × List Nat)} {zi : List (SV × List Int)} {R : Heap} {b d : Nat} (hb : ((zb.drop b).take lp.length).map (·.1) = lp.map (·.1)) (hi : ((zi.drop d).take lp.length).map (·.1) = lp.map (·.2))
    (ob : ∀ x ∈ zb, (∀ y ∈ x.2, y < 256) ∧ x.2.length ≤ 1000000000) (oi : ∀ x ∈ zi, (∀ y ∈ x.2, y ≤ 9223372036854775807) ∧ x.2.length ≤ 1000000000) :
    ∃ ps' : Pcs, lp.length = ps'.length ∧ OkPs ps' ∧ HSub (Cl rwB zb :: Cl rwI zi :: R) (Cl pcF (lp.zip ps') :: R) := by
  have h1 := congrArg List.length hb
  have h2 := congrArg List.length hi
  rw [List.length_map, List.length_map] at h1 h2
  refine ⟨(((zb.drop b).take lp.length).map (·.2)).zip (((zi.drop d).take lp.length).map (·.2)), by rw [List.length_zip, List.length_map, List.length_map]; omega, ?_, ?_⟩
  · intro p hp
    obtain ⟨q1, q2⟩ := List.of_mem_zip (a := p.1) (b := p.2) hp
    obtain ⟨x, hx, e1⟩ := List.mem_map.1 q1
    obtain ⟨y, hy, e2⟩ := List.mem_map.1 q2
    have o1 := ob x (List.mem_of_mem_drop (List.mem_of_mem_take hx))
    have o2 := oi y (List.mem_of_mem_drop (List.mem_of_mem_take hy))
    rw [← e1, ← e2]
    exact ⟨o1.1, o1.2, o2.1, o2.2⟩
  · refine HSub.trans (H' := Cl rwB ((zb.drop b).take lp.length) :: Cl rwI ((zi.drop d).take lp.length) :: R) ?_ (pc_join hb hi)
    exact (cl_sub ((List.take_sublist _ _).trans (List.drop_sublist _ _))).trans (HSub.keep (cl_sub ((List.take_sublist _ _).trans (List.drop_sublist _ _))))
theorem own_fst {α : Type} {zs zs' : List (SV × List α)} (g : Nat → (SV × List α) → List α) (hl : zs'.length = zs.length) (h : ∀ (j : Nat) (x : SV × List α), zs[j]? = some x → zs'[j]? = some (x.1, g j x)) : zs'.map (·.1) = zs.map (·.1) := by
  apply List.ext_getElem?
  intro j
  rw [List.getElem?_map, List.getElem?_map]
  cases hj : zs[j]? with
  | none => rw [List.getElem?_eq_none (by have := List.getElem?_eq_none_iff.1 hj; omega)]
  | some x => rw [h j x hj]; rfl
theorem own_mem {α : Type} {zs zs' : List (SV × List α)} (g : Nat → (SV × List α) → List α) (hl : zs'.length = zs.length) (h : ∀ (j : Nat) (x : SV × List α), zs[j]? = some x → zs'[j]? = some (x.1, g j x)) : ∀ x ∈ zs', ∃ j, ∃ y ∈ zs, x = (y.1, g j y) := by
  intro x hx
  obtain ⟨j, hj⟩ := List.mem_iff_getElem?.1 hx
  obtain ⟨y, hy⟩ : ∃ y, zs[j]? = some y := ⟨_, List.getElem?_eq_getElem (by have := (List.getElem?_eq_some_iff.1 hj).1; omega)⟩
  rw [h j y hy] at hj
  exact ⟨j, y, List.mem_of_getElem? hy, (Option.some.inj hj).symm⟩
end Go.Sx
