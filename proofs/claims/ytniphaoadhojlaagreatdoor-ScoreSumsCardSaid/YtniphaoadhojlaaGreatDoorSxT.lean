import Derived.Test.YtniphaoadhojlaaGreatDoorSxQ
set_option linter.all false
namespace Go.Sx
open Go
/-! ## append that may leave the old row where it lay -/
section
variable {G : Base} {P : Program} {N : Nat} {Q : Post} {t : Tm} {H : Heap} {dst : Option Tmp} {ty : TypeId} {pos : String} {after : Array Edge} {g : Option (Nat × Bool)}
theorem run_append2 {w : World} {T T2 E : TypeId} {d2 : TypeDesc} {s : SV} {v z : Value} {m sz bb : Nat} {cs : List Value} {α : Type} {e : Enc α} {xs ys : List α} {C : Hp → Heap} [hT : Und P T (.slice E)] [hT2 : Und P T2 d2] [hE : Inf P E sz bb z] (hd2 : d2 = .string ∨ ∃ e2, d2 = .slice e2) (hsz : sz = e.sz) (hzc : z.cells.size = sz)
    [hf : FocR H s e xs C] (hw : Sat G w H) (hg : Gives P sz v m cs w) (hcs : cs = e.all ys) (hm : m = ys.length) (hlim : (xs.length + ys.length) * bb ≤ 140737488355328) (hlim2 : xs.length + ys.length ≤ 140737488355328) :
    ∃ (s' : SV) (w' : World), (Builtin.append_ #[T, T2] ty #[s.val, v]).run P w = .ok s'.val w' ∧ ((s'.a = s.a ∧ s'.c = s.c ∧ Sat G w' (C (Row s' e (xs ++ ys)))) ∨ Sat G w' (Row s' e (xs ++ ys) :: H)) := by
  subst hsz hcs hm
  obtain ⟨hg1, hg2⟩ := hg
  have hg2w := hg2 w.drawn
  obtain ⟨L1, M, L2, hl, hM, hB⟩ := hf.split hw
  obtain ⟨i, hi1, hi2, hi3, hi4⟩ := hE.out
  have hone := e.all_one ys
  -- the slice's own length and capacity
  have hsn : s.n = xs.length ∧ s.n ≤ s.c := by
    rcases hM with ⟨rfl, rfl, _⟩ | ⟨b, C0, E0, fz, _, h2, h3, _⟩
    · exact ⟨rfl, Nat.le_refl _⟩
    · exact ⟨h2, h3⟩
  rcases hd2 with rfl | ⟨e2, rfl⟩
  all_goals
    by_cases hroom : s.n + ys.length ≤ s.c
    · -- in place
      rcases hM with ⟨rfl, rfl, rfl⟩ | ⟨b, C0, E0, fz, h1, h2, h3, rfl, h5, h6, h7⟩
      · obtain rfl : ys = [] := by
          simp [SV.nil] at hroom; exact hroom
        refine ⟨SV.nil, w, ?_, .inl ⟨rfl, rfl, hw.1, _, hB _ [] (.inl ⟨rfl, rfl, rfl⟩), by simpa using hl⟩⟩
        simp only [Builtin.append_, SV.nil, SV.val]
        simp only [Sem.run_bind, Sem.run_pure, Result.andThen_ok, run_und (T := T), run_sizeOf (T := E) (s := e.sz), List.getElem?_toArray, List.getElem?_cons_zero, List.getElem?_cons_succ, run_und (T := T2), hg1, Bool.false_eq_true, ↓reduceIte, Bool.not_false, Nat.add_zero, List.length_nil, Nat.le_refl]
        have := hg2w
        simp only [List.length_nil] at this
        rw [this]
        rfl
      · have hbw : w.heap[b]? = some (.cells C0 E0 fz) := hl.at_ (b, .cells C0 E0 fz) (by simp)
        have hfit : s.n * e.sz + (e.all ys).length ≤ C0.size := by
          rw [e.all_length, h5, ← Nat.add_mul]; exact Nat.mul_le_mul_right _ hroom
        have hst := run_storeCells_blk (P := P) (o := s.n * e.sz) (e.all ys) 0 C0 w hbw (fun j _ h => h6.free j (by omega)) (by omega) hone
        refine ⟨⟨some ⟨b, 0, none⟩, s.n + ys.length, s.c⟩, setBlk w b (.cells (putAt C0 (s.n * e.sz) (e.all ys)) E0 fz), ?_, .inl ⟨h1.symm, rfl, ⟨hw.1.os, hw.1.tape, hw.1.output⟩, _, hB _ [(b, .cells (putAt C0 (s.n * e.sz) (e.all ys)) E0 fz)] (.inr ⟨b, _, E0, fz, rfl, by simp [h2], hroom, rfl, by rw [putAt_size, h5], by rw [putAt_size]; exact h6, ?_⟩), ?_⟩⟩
        · simp only [Builtin.append_, SV.val, h1]
          simp only [Sem.run_bind, Sem.run_pure, Result.andThen_ok, run_und (T := T), run_sizeOf (T := E) (s := e.sz), List.getElem?_toArray, List.getElem?_cons_zero, List.getElem?_cons_succ, run_und (T := T2), hg1, Bool.false_eq_true, ↓reduceIte, Bool.not_false, hroom]
          rw [hg2w]
          simp only [Result.andThen_ok, add_none, Nat.zero_add]
          simp only [Nat.add_zero] at hst
          rw [hst]
          rfl
        · intro j u hu
          rw [putAt_get _ _ _ _ hfit]
          rw [e.all_append] at hu
          have hlx : (e.all xs).length = s.n * e.sz := by rw [e.all_length, h2]
          by_cases hj : j < s.n * e.sz
          · rw [if_neg (by omega)]
            rw [List.getElem?_append_left (by omega)] at hu
            exact h7 j u hu
          · rw [List.getElem?_append_right (by omega), hlx] at hu
            rw [if_pos ⟨by omega, by have := (List.getElem?_eq_some_iff.1 hu).1; omega⟩]
            exact hu
        · have := Lies.change (w' := setBlk w b (.cells (putAt C0 (s.n * e.sz) (e.all ys)) E0 fz)) (L1 := L1) (L2 := L2) (b := b) (o := .cells C0 E0 fz) (o' := .cells (putAt C0 (s.n * e.sz) (e.all ys)) E0 fz) (by simpa using hl) (setBlk_get hbw) (fun i hi _ => setBlk_other hi)
          simpa using this
    · -- a new row
      have hgt : s.c < s.n + ys.length := by omega
      have hn63 : ¬ ((s.n + ys.length : Nat) : Int) > IntKind.i64.max := by
        simp only [IntKind.max, IntKind.signed, IntKind.bits]; simp; omega
      have h48 : ¬ (Builtin.nextslicecap (s.n + ys.length) s.c * bb > 2 ^ 48) := by
        have := growslice_fits (bytes := bb) hgt (by rw [hsn.1]; exact hlim)
        omega
      have holds : ∀ d, (Builtin.firstCells e.sz s.n s.val).run P { w with drawn := d } = .ok (e.all xs).toArray { w with drawn := d } := by
        intro d
        rcases hM with ⟨rfl, rfl, rfl⟩ | ⟨b, C0, E0, fz, h1, h2, h3, rfl, h5, h6, h7⟩
        · rfl
        · have hbw : ({ w with drawn := d } : World).heap[b]? = some (.cells C0 E0 fz) := hl.at_ (b, .cells C0 E0 fz) (by simp)
          have := run_loadCells_blk (P := P) (o := 0) hbw (e.all xs) (fun j v hv => by rw [Nat.zero_add]; exact h7 j v hv)
          rw [e.all_length, ← h2] at this
          simp only [Builtin.firstCells, SV.val, h1, this]
      let q : Question := .appendCap (s.n + ys.length) s.c E
      let nc : Nat := q.cut (w.tape w.drawn q)
      have hnc : s.n + ys.length ≤ nc := by
        show s.n + ys.length ≤ (s.n + ys.length) + _
        omega
      have hzn : (Builtin.zeroCells z.cells (nc - (s.n + ys.length))).size = (nc - (s.n + ys.length)) * e.sz := by
        simp [Builtin.zeroCells, hzc]
      refine ⟨⟨some ⟨w.heap.size, 0, none⟩, s.n + ys.length, nc⟩, { w with drawn := w.drawn + 1, heap := w.heap.push (.cells ((e.all xs).toArray ++ (e.all ys).toArray ++ Builtin.zeroCells z.cells (nc - (s.n + ys.length))) E) }, ?_, .inr (Sat.newRow (w := { w with drawn := w.drawn + 1 }) ⟨⟨hw.1.os, hw.1.tape, hw.1.output⟩, hw.2.imp fun L hL => ⟨hL.1, hL.2.nodup, hL.2.at_⟩⟩ e (xs ++ ys) _ E _ nc (by simp [hsn.1]) hnc ?_ ?_)⟩
      · have hq : q.forced = false := rfl
        have hinf : ∀ w : World, (typeInfo E).run P w = .ok i w := by intro w; simp [typeInfo, hi1]
        have hso := holds (w.drawn + 1)
        have hgo := hg2 (w.drawn + 1)
        have c1 : ¬ (((s.n + ys.length : Nat) : Int) > IntKind.i64.max ∧ (false = true ∨ i.bytes = 0)) := fun h => hn63 h.1
        simp only [Builtin.append_, SV.val] at hso ⊢
        simp only [Sem.run_bind, Sem.run_pure, Result.andThen_ok, run_und (T := T), run_sizeOf (T := E) (s := e.sz), List.getElem?_toArray, List.getElem?_cons_zero, List.getElem?_cons_succ, run_und (T := T2), hg1, Bool.false_eq_true, ↓reduceIte, Bool.not_false, hroom, hinf, hi3]
        rw [if_neg (by rw [← hi3]; exact fun h => hn63 h.1)]
        simp only [Sem.run_bind, hinf, hi3, Result.andThen_ok]
        rw [if_neg h48]
        simp only [Sem.run_bind, Sem.run_pure, run_choose]
        rw [show (Question.appendCap (s.n + ys.length) s.c E).forced = false from rfl]
        simp only [Bool.false_eq_true, ↓reduceIte, Result.andThen_ok, hinf, run_askRoom, hso, hgo, run_zero (T := E)]
        rfl
      · rw [Array.size_append, Array.size_append, hzn]
        simp only [List.size_toArray, e.all_length, ← Nat.add_mul]
        congr 1
        omega
      · intro j u hu
        rw [e.all_append] at hu
        have hj := (List.getElem?_eq_some_iff.1 hu).1
        rw [Array.getElem?_append_left (by simp at hj ⊢; exact hj)]
        simpa using hu
/-- append(s, s2...) of a slice of the call's own; s2 is whatever slice can be read. -/
theorem st_append2 {T T2 E E2 : TypeId} {x y : Operand} {s s2 : SV} {sz bb : Nat} {z : Value} {α : Type} {e : Enc α} {xs ys : List α} {C : Hp → Heap} (hx : evo t x = some s.val) (hy : evo t y = some s2.val) [hT : Und P T (.slice E)] [hT2 : Und P T2 (.slice E2)] [hE : Inf P E sz bb z] [hf : FocR H s e xs C] [hs : Sl H s2 e ys]
    (hsz : sz = e.sz) (hzc : z.cells.size = sz) (hlim : (xs.length + ys.length) * bb ≤ 140737488355328) (hlim2 : xs.length + ys.length ≤ 140737488355328) :
    St G P ⟨dst, .call ⟨.builtin .append, #[x, y], #[T, T2]⟩, ty, pos, after, g⟩ t H (fun u H' => ∃ s' : SV, u = s'.val ∧ ((s'.a = s.a ∧ s'.c = s.c ∧ H' = C (Row s' e (xs ++ ys))) ∨ H' = Row s' e (xs ++ ys) :: H)) :=
  fun ρ hρ w hw => by
    subst hsz
    have hg : Gives P e.sz s2.val ys.length (e.all ys) w := by
      obtain ⟨h1, _, h3⟩ := hs.get hw
      refine ⟨by simp [Builtin.lenOf, SV.val, h1], fun d => ?_⟩
      rcases h3 with ⟨rfl, _⟩ | ⟨b, off, C0, E0, fz, h4, hb, _, h6⟩
      · rw [List.length_nil, firstCells_zero, Enc.all_nil]
      · have := run_loadCells_blk (P := P) (w := { w with drawn := d }) (o := off) hb (e.all ys) h6
        rw [e.all_length] at this
        simp only [Builtin.firstCells, SV.val, h4, this]
    obtain ⟨s', w', hr, hw'⟩ := run_append2 (ty := ty) (T := T) (T2 := T2) (d2 := .slice E2) (P := P) (E := E) (.inr ⟨E2, rfl⟩) rfl hzc (hf := hf) hw hg rfl rfl hlim hlim2
    have : (execOp ρ ⟨dst, .call ⟨.builtin .append, #[x, y], #[T, T2]⟩, ty, pos, after, g⟩).run P w = .ok (.value s'.val) w' := by
      simp only [execOp, resolve, invoke, builtin, List.map_toArray, List.map_cons, List.map_nil, hρ _ _ hx, hρ _ _ hy, Sem.run_bind, Sem.run_pure, Result.andThen_ok, hr]
    rw [this]
    rcases hw' with ⟨h1, h2, hw'⟩ | hw'
    · exact ⟨_, hw', s', rfl, .inl ⟨h1, h2, rfl⟩⟩
    · exact ⟨_, hw', s', rfl, .inr rfl⟩
end
end Go.Sx
namespace Go.Sx
open Go
/-! ## Many like assertions: each element's own memory -/
theorem sep_perm {F F' : Heap} (h : F.Perm F') : ∀ L, Sep F L → ∃ L', L'.Perm L ∧ Sep F' L' := by
  induction h with
  | nil => exact fun L hL => ⟨L, .refl L, hL⟩
  | cons A _ ih =>
    rintro L ⟨L1, L2, rfl, h1, h2⟩
    obtain ⟨L', h3, h4⟩ := ih L2 h2
    exact ⟨L1 ++ L', h3.append_left L1, L1, L', rfl, h1, h4⟩
  | swap A B l =>
    rintro L ⟨L1, L2, rfl, h1, L3, L4, rfl, h3, h4⟩
    refine ⟨L3 ++ (L1 ++ L4), ?_, L3, L1 ++ L4, rfl, h3, L1, L4, rfl, h1, h4⟩
    rw [← List.append_assoc, ← List.append_assoc]
    exact List.perm_append_comm.append_right L4
  | trans _ _ ih1 ih2 =>
    intro L hL
    obtain ⟨L', h1, h2⟩ := ih1 L hL
    obtain ⟨L'', h3, h4⟩ := ih2 L' h2
    exact ⟨L'', h3.trans h1, h4⟩
theorem HSub.perm {F F' : Heap} (h : F.Perm F') : HSub F F' := fun L hL =>
  let ⟨L', h1, h2⟩ := sep_perm h L hL; ⟨L', [], h2, by simpa using h1⟩
theorem HSub.sublist {F F' : Heap} (h : F'.Sublist F) : HSub F F' := by
  induction h with
  | slnil => exact HSub.refl
  | cons A _ ih => exact HSub.drop ih
  | cons_cons A _ ih => exact HSub.keep ih
theorem HSub.frame {F F' H : Heap} (h : HSub F F') : HSub (F ++ H) (F' ++ H) := fun L hL => by
  obtain ⟨L1, L2, rfl, h1, h2⟩ := sep_append hL
  obtain ⟨L', M, h3, h4⟩ := h L1 h1
  refine ⟨L' ++ L2, M, sep_join h3 h2, ?_⟩
  rw [List.append_assoc]
  refine (List.Perm.append_left L' List.perm_append_comm).trans ?_
  rw [← List.append_assoc]
  exact h4.append_right L2
theorem HSub.unstar {F H : Heap} : HSub (Star F :: H) (F ++ H) := fun L hL => by
  obtain ⟨L1, L2, rfl, h1, h2⟩ := hL
  exact ⟨L1 ++ L2, [], sep_join h1 h2, by simp⟩
theorem Sl.hsub {H H' : Heap} {s : SV} {α : Type} {e : Enc α} {xs : List α} (h : HSub H H') (hs : Sl H' s e xs) : Sl H s e xs :=
  ⟨fun L hL => by
    obtain ⟨L', M, h1, h2⟩ := h L hL
    exact (hs.out L' h1).mono fun x hx => h2.subset (List.mem_append_left _ hx)⟩
section
variable {H : Heap} {ι κ : Type}
def Cl (f : ι → Heap) (l : List ι) : Hp := Star (l.flatMap f)
theorem HSub.cl {f : ι → Heap} {l : List ι} {R H' : Heap} [hr : Rem H Cl f l R] (h : HSub R H') : HSub H (Cl f l :: H') := HSub.rem hr h.keep
theorem cl_open {f : ι → Heap} {l : List ι} {i : Nat} {x : ι} (h : l[i]? = some x) : HSub (Cl f l :: H) (f x ++ (Cl f (l.take i) :: Cl f (l.drop (i + 1)) :: H)) := by
  have hi := (List.getElem?_eq_some_iff.1 h).1
  have e : l = l.take i ++ x :: l.drop (i + 1) := by
    have := List.take_append_drop i l
    rw [List.drop_eq_getElem_cons hi] at this
    rw [(List.getElem?_eq_some_iff.1 h).2] at this
    exact this.symm
  refine HSub.unstar.trans ?_
  have h2 : (l.flatMap f ++ H).Perm (f x ++ ((l.take i).flatMap f ++ ((l.drop (i + 1)).flatMap f ++ H))) := by
    conv => lhs; rw [e]
    rw [List.flatMap_append, List.flatMap_cons, List.append_assoc, List.append_assoc]
    exact List.perm_append_comm_assoc ..
  refine (HSub.perm h2).trans ?_
  have h3 : HSub ((l.take i).flatMap f ++ ((l.drop (i + 1)).flatMap f ++ H)) (Cl f (l.take i) :: Cl f (l.drop (i + 1)) :: H) := HSub.star (HSub.star HSub.refl)
  have : ∀ A B C : Heap, HSub B C → HSub (A ++ B) (A ++ C) := by
    intro A B C hBC
    induction A with
    | nil => exact hBC
    | cons a A ih => exact HSub.keep ih
  exact this _ _ _ h3
theorem cl_glue {f : ι → Heap} {l l' : List ι} {y : ι} : HSub (f y ++ (Cl f l :: Cl f l' :: H)) (Cl f (l ++ y :: l') :: H) := by
  have h1 : HSub (f y ++ (Cl f l :: Cl f l' :: H)) (f y ++ (l.flatMap f ++ (l'.flatMap f ++ H))) := by
    have : ∀ A B C : Heap, HSub B C → HSub (A ++ B) (A ++ C) := by
      intro A B C hBC
      induction A with
      | nil => exact hBC
      | cons a A ih => exact HSub.keep ih
    exact this _ _ _ (HSub.unstar.trans (this _ _ _ HSub.unstar))
  refine h1.trans ?_
  have h2 : (f y ++ (l.flatMap f ++ (l'.flatMap f ++ H))).Perm ((l ++ y :: l').flatMap f ++ H) := by
    rw [List.flatMap_append, List.flatMap_cons, List.append_assoc, List.append_assoc]
    exact List.perm_append_comm_assoc ..
  exact (HSub.perm h2).trans (HSub.star HSub.refl)
theorem cl_close {f : ι → Heap} {l : List ι} {i : Nat} (y : ι) (hi : i < l.length) : HSub (f y ++ (Cl f (l.take i) :: Cl f (l.drop (i + 1)) :: H)) (Cl f (l.set i y) :: H) := by
  rw [List.set_eq_take_append_cons_drop, if_pos hi]
  exact cl_glue
theorem HSub.clNil {f : ι → Heap} {H' : Heap} (h : HSub H H') : HSub H (Cl f [] :: H') := HSub.add rfl h
theorem cl_snoc {f : ι → Heap} {l : List ι} (y : ι) : HSub (f y ++ (Cl f l :: H)) (Cl f (l ++ [y]) :: H) := by
  have := cl_glue (H := H) (f := f) (l := l) (l' := []) (y := y)
  refine HSub.trans ?_ this
  have h3 : ∀ A B C : Heap, HSub B C → HSub (A ++ B) (A ++ C) := by
    intro A B C hBC
    induction A with
    | nil => exact hBC
    | cons a A ih => exact HSub.keep ih
  exact h3 _ _ _ (HSub.keep (HSub.clNil HSub.refl))
theorem cl_map {f : ι → Heap} {g : κ → Heap} {u : ι → κ} {l : List ι} (hf : ∀ x ∈ l, HSub (f x) (g (u x))) : HSub (Cl f l :: H) (Cl g (l.map u) :: H) := by
  refine HSub.unstar.trans (HSub.trans (HSub.frame (F' := (l.map u).flatMap g) ?_) (HSub.star HSub.refl))
  induction l with
  | nil => exact HSub.refl
  | cons x l ih =>
    rw [List.map_cons, List.flatMap_cons, List.flatMap_cons]
    have h3 : ∀ A B C : Heap, HSub B C → HSub (A ++ B) (A ++ C) := by
      intro A B C hBC
      induction A with
      | nil => exact hBC
      | cons a A ih => exact HSub.keep ih
    exact (HSub.frame (hf x (List.mem_cons_self ..))).trans (h3 _ _ _ (ih fun y hy => hf y (List.mem_cons_of_mem _ hy)))
theorem cl_app {f : ι → Heap} {l l' : List ι} : HSub (Cl f l :: Cl f l' :: H) (Cl f (l ++ l') :: H) := by
  have h3 : ∀ A B C : Heap, HSub B C → HSub (A ++ B) (A ++ C) := by
    intro A B C hBC
    induction A with
    | nil => exact hBC
    | cons a A ih => exact HSub.keep ih
  refine HSub.unstar.trans ((h3 _ _ _ HSub.unstar).trans ?_)
  rw [← List.append_assoc, ← List.flatMap_append]
  exact HSub.star HSub.refl
theorem cl_sl {f : ι → Heap} {l : List ι} {i : Nat} {x : ι} {s : SV} {α : Type} {e : Enc α} {xs : List α} (h : l[i]? = some x) (hs : ∀ R, Sl (f x ++ R) s e xs) : Sl (Cl f l :: H) s e xs := Sl.hsub (cl_open h) (hs _)
end
end Go.Sx
namespace Go.Sx
open Go
/-! ## A slice that grows while its old reading stays -/
theorem Row.pre {α : Type} {s g : SV} {e : Enc α} {xs ys : List α} {L : Frag} (h : Row g e (xs ++ ys) L) (ha : s.a = g.a) (hc : s.c = g.c) (hn : s.n = xs.length) : Row s e xs L := by
  rcases h with ⟨rfl, h2, rfl⟩ | ⟨b, C, E, fz, h1, h2, h3, rfl, h5, h6, h7⟩
  · obtain ⟨rfl, rfl⟩ := List.append_eq_nil_iff.1 h2
    obtain ⟨a, n, c⟩ := s
    simp only at ha hc hn
    subst ha; subst hc; subst hn
    exact .inl ⟨rfl, rfl, rfl⟩
  · rw [List.length_append] at h2
    refine .inr ⟨b, C, E, fz, ha.trans h1, hn, by omega, rfl, by rw [hc]; exact h5, h6, fun j v hv => h7 j v ?_⟩
    rw [e.all_append, List.getElem?_append_left (List.getElem?_eq_some_iff.1 hv).1]
    exact hv
structure GSt (α : Type) where
  s : SV
  xs : List α
  g : SV
  ys : List α
def Gw {α : Type} (e : Enc α) (x : GSt α) : Hp := fun L => x.s.n = x.xs.length ∧ ((∃ zs, x.ys = x.xs ++ zs) ∧ Row x.g e x.ys L ∧ x.s.a = x.g.a ∧ x.s.c = x.g.c ∨ Sep [Row x.g e x.ys, Row x.s e x.xs] L)
section
variable {G : Base} {P : Program} {N : Nat} {Q : Post} {t : Tm} {H : Heap} {dst : Option Tmp} {ty : TypeId} {pos : String} {after : Array Edge} {g : Option (Nat × Bool)} {α : Type} {e : Enc α}
theorem row_n {s : SV} {xs : List α} {L : Frag} (h : Row s e xs L) : s.n = xs.length := by
  rcases h with ⟨rfl, rfl, _⟩ | ⟨b, C, E, fz, h1, h2, _⟩
  · rfl
  · exact h2
theorem gw_start {s : SV} {xs : List α} : HSub [Row s e xs] [Gw e ⟨s, xs, s, xs⟩] := fun L hL => by
  obtain ⟨L1, L2, rfl, h1, h2⟩ := hL
  obtain rfl : L2 = [] := h2
  exact ⟨L1 ++ [], [], ⟨L1, [], rfl, ⟨row_n h1, .inl ⟨⟨[], by simp⟩, h1, rfl, rfl⟩⟩, rfl⟩, by simp⟩
theorem gw_end {x : GSt α} : HSub [Gw e x] [Row x.s e x.xs] := fun L hL => by
  obtain ⟨L1, L2, rfl, ⟨hn, h1⟩, h2⟩ := hL
  obtain rfl : L2 = [] := h2
  rcases h1 with ⟨⟨zs, hz⟩, h1, ha, hc⟩ | ⟨M1, M2, rfl, h1, M3, M4, rfl, h3, h4⟩
  · exact ⟨L1 ++ [], [], ⟨L1, [], rfl, Row.pre (ys := zs) (by rw [← hz]; exact h1) ha hc hn, rfl⟩, by simp⟩
  · obtain rfl : M4 = [] := h4
    exact ⟨M3 ++ [], M1, ⟨M3, [], rfl, h3, rfl⟩, by simpa using List.perm_append_comm⟩
theorem gw_sl {x : GSt α} {R : Heap} : Sl (Gw e x :: R) x.g e x.ys :=
  ⟨fun L hL => by
    obtain ⟨L1, L2, rfl, ⟨hn, h1⟩, h2⟩ := hL
    rcases h1 with ⟨_, h1, _, _⟩ | ⟨M1, M2, rfl, h1, _⟩
    · exact h1.slL.mono fun x hx => List.mem_append_left _ hx
    · exact h1.slL.mono fun x hx => List.mem_append_left _ (List.mem_append_left _ hx)⟩
theorem gw_old {x : GSt α} {R : Heap} : Sl (Gw e x :: R) x.s e x.xs :=
  Sl.hsub (H' := Row x.s e x.xs :: R) (HSub.frame (F := [Gw e x]) (F' := [Row x.s e x.xs]) gw_end) inferInstance
theorem St.post {o : Oper} {R1 R2 : Value → Heap → Prop} (h : St G P o t H R1) (hk : ∀ v H', R1 v H' → ∃ H'', HSub H' H'' ∧ R2 v H'') : St G P o t H R2 := fun ρ hρ w hw => by
  have h1 := h ρ hρ w hw
  revert h1
  generalize (execOp ρ o).run P w = r
  intro h1
  cases r with
  | ok n w' =>
    cases n <;> simp only [Does] at h1 ⊢
    case value v => obtain ⟨H', h2, h3⟩ := h1; obtain ⟨H'', h4, h5⟩ := hk _ _ h3; exact ⟨H'', h4.sat h2, h5⟩
    case skip => obtain ⟨H', h2, h3⟩ := h1; obtain ⟨H'', h4, h5⟩ := hk _ _ h3; exact ⟨H'', h4.sat h2, h5⟩
    case enter f args =>
      refine h1.mono fun e w'' he => ?_
      cases e with
      | returned v => obtain ⟨H', h2, h3⟩ := he; obtain ⟨H'', h4, h5⟩ := hk _ _ h3; exact ⟨H'', h4.sat h2, h5⟩
      | _ => exact he.elim
  | halt x w' => simp only [Does] at h1
theorem gw_shared {x : GSt α} {R : Heap} (hn : x.s.n = x.xs.length) (hz : ∃ zs, x.ys = x.xs ++ zs) (ha : x.s.a = x.g.a) (hc : x.s.c = x.g.c) : HSub (Row x.g e x.ys :: R) (Gw e x :: R) :=
  HSub.imp (fun _ h => ⟨hn, .inl ⟨hz, h, ha, hc⟩⟩) HSub.refl
theorem gw_apart {x : GSt α} {R : Heap} (hn : x.s.n = x.xs.length) : HSub (Row x.g e x.ys :: Row x.s e x.xs :: R) (Gw e x :: R) := fun L hL => by
  obtain ⟨L1, L2, rfl, h1, L3, L4, rfl, h3, h4⟩ := hL
  exact ⟨(L1 ++ L3) ++ L4, [], ⟨L1 ++ L3, L4, rfl, ⟨hn, .inr ⟨L1, L3, rfl, h1, L3, [], by simp, h3, rfl⟩⟩, h4⟩, by simp⟩
/-- append to the growing one. -/
theorem st_append_gw {T T2 E E2 : TypeId} {x y : Operand} {s2 : SV} {sz bb : Nat} {z : Value} {zs : List α} {u : GSt α} {R : Heap} [hr : RemA H (Gw e u) R] (hx : evo t x = some u.g.val) (hy : evo t y = some s2.val) [hT : Und P T (.slice E)] [hT2 : Und P T2 (.slice E2)] [hE : Inf P E sz bb z] [hs : Sl R s2 e zs]
    (hsz : sz = e.sz) (hzc : z.cells.size = sz) (hlim : (u.ys.length + zs.length) * bb ≤ 140737488355328) (hlim2 : u.ys.length + zs.length ≤ 140737488355328) :
    St G P ⟨dst, .call ⟨.builtin .append, #[x, y], #[T, T2]⟩, ty, pos, after, g⟩ t H (fun v H' => ∃ g' : SV, v = g'.val ∧ H' = Gw e ⟨u.s, u.xs, g', u.ys ++ zs⟩ :: R) :=
  fun ρ hρ w hw => by
    obtain ⟨hsm, L, hL, hl⟩ := hw
    obtain ⟨L', hp, hL'⟩ := hr.out L hL
    have hl' : Lies w L' := ⟨by have := hl.nodup; exact ((hp.map _).nodup_iff).2 this, fun x hx => hl.at_ x (hp.subset hx)⟩
    obtain ⟨L1, L2, rfl, ⟨hn, h1⟩, h2⟩ := hL'
    rcases h1 with ⟨⟨z0, hz0⟩, h1, ha, hc⟩ | ⟨M1, M2, rfl, h1, M3, M4, rfl, h3, h4⟩
    · have hw2 : Sat G w (Row u.g e u.ys :: R) := ⟨hsm, _, ⟨L1, L2, rfl, h1, h2⟩, hl'⟩
      have h := st_append2 (G := G) (P := P) (dst := dst) (ty := ty) (pos := pos) (after := after) (g := g) (H := Row u.g e u.ys :: R) (s := u.g) (e := e) (xs := u.ys) (s2 := s2) (ys := zs) (T := T) (T2 := T2) (E := E) (E2 := E2) (sz := sz) (bb := bb) (z := z) hx hy hsz hzc hlim hlim2
      refine (h.post (R2 := fun v H' => ∃ g' : SV, v = g'.val ∧ H' = Gw e ⟨u.s, u.xs, g', u.ys ++ zs⟩ :: R) ?_) ρ hρ w hw2
      rintro v H' ⟨g', rfl, ⟨ha', hc', rfl⟩ | rfl⟩
      · exact ⟨_, gw_shared (x := ⟨u.s, u.xs, g', u.ys ++ zs⟩) hn ⟨z0 ++ zs, by show u.ys ++ zs = u.xs ++ (z0 ++ zs); rw [hz0, List.append_assoc]⟩ (ha.trans ha'.symm) (hc.trans hc'.symm), g', rfl, rfl⟩
      · exact ⟨_, (HSub.keep (HSub.imp (B := Row u.s e u.xs) (fun _ h => Row.pre (ys := z0) (by rw [← hz0]; exact h) ha hc hn) HSub.refl)).trans (gw_apart (x := ⟨u.s, u.xs, g', u.ys ++ zs⟩) hn), g', rfl, rfl⟩
    · obtain rfl : M4 = [] := h4
      have hw2 : Sat G w (Row u.g e u.ys :: Row u.s e u.xs :: R) := ⟨hsm, _, ⟨M1, M3 ++ L2, rfl, h1, M3, L2, rfl, h3, h2⟩, by simpa using hl'⟩
      have h := st_append2 (G := G) (P := P) (dst := dst) (ty := ty) (pos := pos) (after := after) (g := g) (H := Row u.g e u.ys :: Row u.s e u.xs :: R) (s := u.g) (e := e) (xs := u.ys) (s2 := s2) (ys := zs) (T := T) (T2 := T2) (E := E) (E2 := E2) (sz := sz) (bb := bb) (z := z) hx hy hsz hzc hlim hlim2
      refine (h.post (R2 := fun v H' => ∃ g' : SV, v = g'.val ∧ H' = Gw e ⟨u.s, u.xs, g', u.ys ++ zs⟩ :: R) ?_) ρ hρ w hw2
      rintro v H' ⟨g', rfl, ⟨ha', hc', rfl⟩ | rfl⟩
      · exact ⟨_, gw_apart (x := ⟨u.s, u.xs, g', u.ys ++ zs⟩) hn, g', rfl, rfl⟩
      · exact ⟨_, (HSub.keep (HSub.drop HSub.refl)).trans (gw_apart (x := ⟨u.s, u.xs, g', u.ys ++ zs⟩) hn), g', rfl, rfl⟩
end
end Go.Sx
namespace Go.Sx
open Go
section
variable {G : Base} {P : Program} {N : Nat} {Q : Post} {t : Tm} {H : Heap}
/-- A piece of code whose ways meet again: what is kept of the frame. -/
theorem w_cut {x y : Code} (F : Tm) (h : W G P N x (fun e t' H' => e = .normal ∧ Sub F t' ∧ H' = H) t H) (k : W G P N y Q F H) : W G P N (.seq x y) Q t H :=
  w_seq (w_mono h fun e t' H' hq => by
    obtain ⟨rfl, hs, rfl⟩ := hq
    exact w_sub hs k)
theorem cut_f {p : Prop} [Decidable p] (h : ¬ p) : false = decide p := (decide_eq_false h).symm
theorem cut_t {p : Prop} [Decidable p] (h : p) : true = decide p := (decide_eq_true h).symm
theorem cut_n {p q : Prop} [Decidable p] [Decidable q] (h : ¬ p ↔ q) : (!decide p) = decide q := by
  by_cases hp : p
  · rw [decide_eq_true hp]; exact cut_f (fun hq => (h.2 hq) hp)
  · rw [decide_eq_false hp]; exact cut_t (h.1 hp)
theorem cut_d {p q : Prop} [Decidable p] [Decidable q] (h : p ↔ q) : decide p = decide q := decide_eq_decide.2 h
end
end Go.Sx
