import Derived.Test.YtniphaoadhojlaaGreatDoorSxE
import Derived.Test.YtniphaoadhojlaaGreatDoorSxB
import Derived.Still
import Derived.Laws.BytesString
set_option linter.all false
namespace Go.Sx
open Go

theorem firstCells_zero {P : Program} (sz : Nat) (s : SV) (w : World) : (Builtin.firstCells sz 0 s.val).run P w = .ok #[] w := by
  cases h : s.a <;> simp [Builtin.firstCells, SV.val, h, loadCells, loadCellsFrom]

/-! ## Parts of literals -/
def evps (t : Tm) : List (Nat × Operand) → Option (List (Nat × Value))
  | [] => some []
  | (i, x) :: xs => match evo t x, evps t xs with
    | some v, some vs => some ((i, v) :: vs)
    | _, _ => none
theorem evps_map {t : Tm} {ρ : Operand → Value} (hρ : Agree t ρ) : ∀ {xs : List (Nat × Operand)} {vs : List (Nat × Value)}, evps t xs = some vs → xs.map (fun (i, x) => (i, ρ x)) = vs
  | [], _, h => by cases h; rfl
  | (i, x) :: xs, vs, h => by
    simp only [evps] at h
    split at h
    · rename_i v us h1 h2
      cases h
      rw [List.map_cons, evps_map hρ h2]
      simp only [hρ x v h1]
    · cases h

def Enc.parts {α : Type} (e : Enc α) : Nat → List α → List (Nat × Value)
  | _, [] => []
  | k, x :: xs => (k, e.v x) :: e.parts (k + 1) xs

theorem foldl_put (cs : List Value) : ∀ (C : Array Value) (o k : Nat), (cs.zipIdx k).foldl (fun cs (x : Value × Nat) => cs.setIfInBounds (o + x.2) x.1) C = putAt C (o + k) cs := by
  induction cs with
  | nil => intro C o k; rfl
  | cons c cs ih => intro C o k; simp only [List.zipIdx_cons, List.foldl_cons, putAt]; rw [ih]; rfl

theorem fill_parts {α : Type} (e : Enc α) : ∀ (xs : List α) (k : Nat) (C : Array Value), (k + xs.length) * e.sz ≤ C.size → Instr.fill (fun i => some (i * e.sz, e.sz)) C (e.parts k xs) = some (putAt C (k * e.sz) (e.all xs)) := by
  intro xs
  induction xs with
  | nil => intro k C _; rfl
  | cons x xs ih =>
    intro k C h
    simp only [List.length_cons] at h
    have h2 : k * e.sz + e.sz ≤ C.size := by
      refine Nat.le_trans ?_ h
      rw [show k * e.sz + e.sz = (k + 1) * e.sz by rw [Nat.add_mul]; omega]
      exact Nat.mul_le_mul_right _ (by omega)
    have h3 : ∀ o, ((e.f x).toArray.zipIdx.foldl (fun cs (y : Value × Nat) => cs.setIfInBounds (o + y.2) y.1) C) = putAt C o (e.f x) := by
      intro o
      rw [← Array.foldl_toList]
      have := foldl_put (e.f x) C o 0
      simpa using this
    simp only [Enc.parts, Instr.fill, e.v_cells]
    rw [if_neg (by simp [e.len]; exact h2)]
    have h4 := ih (k + 1) (putAt C (k * e.sz) (e.f x)) (by rw [putAt_size]; exact Nat.le_trans (Nat.mul_le_mul_right _ (by omega)) h)
    have h5 := h3 (k * e.sz)
    rw [h5, h4, Enc.all_cons]
    congr 1
    apply Array.ext_getElem?
    intro j
    have hsz : (k + (xs.length + 1)) * e.sz = k * e.sz + e.sz + xs.length * e.sz := by
      rw [Nat.add_mul, Nat.add_mul]; omega
    have hk1 : (k + 1) * e.sz = k * e.sz + e.sz := by rw [Nat.add_mul]; omega
    rw [putAt_get _ _ _ _ (by rw [putAt_size, Enc.all_length, hk1]; omega), putAt_get _ _ _ _ (by rw [e.len]; omega), putAt_get _ _ _ _ (by rw [List.length_append, e.len, Enc.all_length]; omega)]
    simp only [List.length_append, e.len, Enc.all_length, hk1]
    by_cases c1 : k * e.sz + e.sz ≤ j ∧ j < k * e.sz + e.sz + xs.length * e.sz
    · rw [if_pos c1, if_pos (by omega), List.getElem?_append_right (by rw [e.len]; omega), e.len]
      congr 1; omega
    · rw [if_neg c1]
      by_cases c2 : k * e.sz ≤ j ∧ j < k * e.sz + e.sz
      · rw [if_pos c2, if_pos (by omega), List.getElem?_append_left (by rw [e.len]; omega)]
      · rw [if_neg c2, if_neg (by omega)]

section
variable {G : Base} {P : Program} {N : Nat} {Q : Post} {t : Tm} {H : Heap} {dst : Option Tmp} {ty : TypeId} {pos : String} {after : Array Edge} {g : Option (Nat × Bool)}

/-- A new row, held by the call alone. -/
theorem Sat.newRow {w : World} {α : Type} (hw : Sat G w H) (e : Enc α) (xs : List α) (C : Array Value) (E : TypeId) (n c : Nat) (hn : n = xs.length) (hc : n ≤ c) (hs : C.size = c * e.sz) (hC : ∀ (j : Nat) (v : Value), (e.all xs)[j]? = some v → C[j]? = some v) :
    Sat G { w with heap := w.heap.push (.cells C E) } (Row ⟨some ⟨w.heap.size, 0, none⟩, n, c⟩ e xs :: H) :=
  (hw.alloc _).cons fun _ hM => .inr ⟨w.heap.size, C, E, (0, 0), rfl, hn, hc, hM, hs, .inl rfl, hC⟩

/-- []T{..}: all elements given, in order. -/
theorem st_buildSlice {T E : TypeId} {n bb : Nat} {z : Value} {ps : List (Nat × Operand)} {α : Type} (e : Enc α) (xs : List α) [hT : Und P T (.slice E)] [hE : Inf P E e.sz bb z] (hp : evps t ps = some (e.parts 0 xs)) (hn : n = xs.length) (hb : n * e.sz ≤ 16777216) :
    St G P ⟨dst, .buildSlice T n ps.toArray, ty, pos, after, g⟩ t H (fun u H' => ∃ s : SV, u = s.val ∧ H' = Row s e xs :: H) :=
  fun ρ hρ w hw => by
    subst hn
    have h2 : (ps.toArray.map fun (i, x) => (i, ρ x)).toList = e.parts 0 xs := by simp [evps_map hρ hp]
    have hr : ∃ C : Array Value, C.size = xs.length * e.sz ∧ (∀ (j : Nat) (v : Value), (e.all xs)[j]? = some v → C[j]? = some v) ∧ (execOp ρ ⟨dst, .buildSlice T xs.length ps.toArray, ty, pos, after, g⟩).run P w = .ok (.value (.slice (some ⟨w.heap.size, 0, none⟩) xs.length xs.length)) { w with heap := w.heap.push (.cells C E) } := by
      have hnot : ¬ (xs.length * e.sz > 2 ^ 24) := by omega
      obtain ⟨Z, hZ⟩ : ∃ Z, (if xs.length * e.sz = 0 then #[] else z.cells : Array Value) = Z := ⟨_, rfl⟩
      have hf := fill_parts e xs 0 ((Array.range (xs.length * e.sz)).map (Z[· % Z.size]!)) (by simp)
      refine ⟨putAt ((Array.range (xs.length * e.sz)).map (Z[· % Z.size]!)) (0 * e.sz) (e.all xs), ?_, ?_, ?_⟩
      · rw [putAt_size]; simp
      · intro j v hv
        have hj : j < xs.length * e.sz := by rw [← e.all_length]; exact (List.getElem?_eq_some_iff.1 hv).1
        rw [putAt_get _ _ _ _ (by simp [Enc.all_length])]
        rw [if_pos (by rw [e.all_length]; omega)]
        simpa using hv
      · have hm : (ps.toArray.map fun (i, x) => (i, ρ x)).toList = e.parts 0 xs := h2
        simp only [execOp, Instr.buildSlice, Sem.run_bind, run_und (T := T), Result.andThen_ok, run_sizeOf (T := E) (s := e.sz), hnot, ↓reduceIte, hm]
        by_cases h0 : xs.length * e.sz = 0
        · rw [if_pos h0] at hZ ⊢
          subst hZ
          simp only [Sem.run_bind, Sem.run_pure, Result.andThen_ok]
          rw [hf]; rfl
        · rw [if_neg h0] at hZ ⊢
          subst hZ
          simp only [Sem.run_bind, Sem.run_pure, Result.andThen_ok, run_zero (T := E)]
          rw [hf]; rfl
    obtain ⟨C, hC1, hC2, hr⟩ := hr
    rw [hr]
    exact ⟨_, hw.newRow e xs C E _ _ rfl (Nat.le_refl _) hC1 hC2, ⟨some ⟨w.heap.size, 0, none⟩, xs.length, xs.length⟩, rfl, rfl⟩

/-- A nil slice, as a row of the call's own. -/
theorem Sat.nilRow {w : World} {α : Type} (hw : Sat G w H) (e : Enc α) : Sat G w (Row SV.nil e [] :: H) := by
  obtain ⟨hs, L, hL, hl⟩ := hw
  exact ⟨hs, L, ⟨[], L, rfl, .inl ⟨rfl, rfl, rfl⟩, hL⟩, hl⟩

theorem FocR.split {w : World} {s : SV} {α : Type} {e : Enc α} {xs : List α} {C : Hp → Heap} (h : FocR H s e xs C) (hw : Sat G w H) :
    ∃ L1 M L2, Lies w (L1 ++ (M ++ L2)) ∧ Row s e xs M ∧ ∀ (B : Hp) M', B M' → Sep (C B) (L1 ++ (M' ++ L2)) := by
  obtain ⟨_, L, hL, hl⟩ := hw
  obtain ⟨L1, M, L2, rfl, hM, hB⟩ := h.foc _ hL
  exact ⟨L1, M, L2, hl, hM, hB⟩

theorem Lies.push {w : World} {L1 M L2 : Frag} (h : Lies w (L1 ++ (M ++ L2))) (o : Obj) : Lies { w with heap := w.heap.push o } (L1 ++ ([(w.heap.size, o)] ++ L2)) := by
  have hsub : (L1 ++ L2).Sublist (L1 ++ (M ++ L2)) := (List.Sublist.refl L1).append (List.sublist_append_right M L2)
  have hn : ((L1 ++ L2).map (·.1)).Nodup := (hsub.map _).nodup h.nodup
  have hlt : ∀ x ∈ L1 ++ L2, x.1 < w.heap.size := fun x hx => h.lt (hsub.subset hx)
  have hperm : (L1 ++ ([(w.heap.size, o)] ++ L2)).Perm ((w.heap.size, o) :: (L1 ++ L2)) := by
    simp
  refine ⟨?_, ?_⟩
  · rw [(hperm.map _).nodup_iff, List.map_cons, List.nodup_cons]
    refine ⟨fun hm => ?_, hn⟩
    obtain ⟨x, hx, he⟩ := List.mem_map.1 hm
    have := hlt x hx
    simp only at he
    omega
  · intro x hx
    rcases List.mem_cons.1 (hperm.mem_iff.1 hx) with rfl | hx
    · simp
    · have h1 := hlt x hx
      simp only [Array.getElem?_push]
      rw [if_neg (by omega)]
      exact h.at_ x (hsub.subset hx)

/-- What append is given behind the slice: m elements, whose cells are those of ys. -/
def Gives (P : Program) (sz : Nat) (v : Value) (m : Nat) (cs : List Value) (w : World) : Prop :=
  (Builtin.lenOf v).run P w = .ok m w ∧ ∀ d, (Builtin.firstCells sz m v).run P { w with drawn := d } = .ok cs.toArray { w with drawn := d }

theorem run_append {w : World} {T T2 E : TypeId} {d2 : TypeDesc} {s : SV} {v z : Value} {m sz bb : Nat} {cs : List Value} {α : Type} {e : Enc α} {xs ys : List α} {C : Hp → Heap} [hT : Und P T (.slice E)] [hT2 : Und P T2 d2] [hE : Inf P E sz bb z] (hd2 : d2 = .string ∨ ∃ e2, d2 = .slice e2) (hsz : sz = e.sz) (hzc : z.cells.size = sz)
    [hf : FocR H s e xs C] (hw : Sat G w H) (hg : Gives P sz v m cs w) (hcs : cs = e.all ys) (hm : m = ys.length) (hlim : (xs.length + ys.length) * bb ≤ 140737488355328) (hlim2 : xs.length + ys.length ≤ 140737488355328) :
    ∃ (s' : SV) (w' : World), (Builtin.append_ #[T, T2] ty #[s.val, v]).run P w = .ok s'.val w' ∧ Sat G w' (C (Row s' e (xs ++ ys))) := by
  subst hsz hcs hm
  obtain ⟨hg1, hg2⟩ := hg
  have hg2w := hg2 w.drawn
  obtain ⟨L1, M, L2, hl, hM, hB⟩ := hf.split hw
  obtain ⟨i, hi1, hi2, hi3, hi4⟩ := hE.out
  have hone := e.all_one ys
  -- the slice's own length and capacity
  have hsn : s.n = xs.length ∧ s.n ≤ s.c := by
    rcases hM with ⟨rfl, rfl, _⟩ | ⟨b, C0, E0, fz, _, h2, h3, _⟩
    · exact ⟨rfl, Nat.le_refl _⟩
    · exact ⟨h2, h3⟩
  rcases hd2 with rfl | ⟨e2, rfl⟩
  all_goals
    by_cases hroom : s.n + ys.length ≤ s.c
    · -- in place
      rcases hM with ⟨rfl, rfl, rfl⟩ | ⟨b, C0, E0, fz, h1, h2, h3, rfl, h5, h6, h7⟩
      · obtain rfl : ys = [] := by
          simp [SV.nil] at hroom; exact hroom
        refine ⟨SV.nil, w, ?_, hw.1, _, hB _ [] (.inl ⟨rfl, rfl, rfl⟩), by simpa using hl⟩
        simp only [Builtin.append_, SV.nil, SV.val]
        simp only [Sem.run_bind, Sem.run_pure, Result.andThen_ok, run_und (T := T), run_sizeOf (T := E) (s := e.sz), List.getElem?_toArray, List.getElem?_cons_zero, List.getElem?_cons_succ, run_und (T := T2), hg1, Bool.false_eq_true, ↓reduceIte, Bool.not_false, Nat.add_zero, List.length_nil, Nat.le_refl]
        have := hg2w
        simp only [List.length_nil] at this
        rw [this]
        rfl
      · have hbw : w.heap[b]? = some (.cells C0 E0 fz) := hl.at_ (b, .cells C0 E0 fz) (by simp)
        have hfit : s.n * e.sz + (e.all ys).length ≤ C0.size := by
          rw [e.all_length, h5, ← Nat.add_mul]; exact Nat.mul_le_mul_right _ hroom
        have hst := run_storeCells_blk (P := P) (o := s.n * e.sz) (e.all ys) 0 C0 w hbw (fun j _ h => h6.free j (by omega)) (by omega) hone
        refine ⟨⟨some ⟨b, 0, none⟩, s.n + ys.length, s.c⟩, setBlk w b (.cells (putAt C0 (s.n * e.sz) (e.all ys)) E0 fz), ?_, ⟨hw.1.os, hw.1.tape, hw.1.output⟩, _, hB _ [(b, .cells (putAt C0 (s.n * e.sz) (e.all ys)) E0 fz)] (.inr ⟨b, _, E0, fz, rfl, by simp [h2], hroom, rfl, by rw [putAt_size, h5], by rw [putAt_size]; exact h6, ?_⟩), ?_⟩
        · simp only [Builtin.append_, SV.val, h1]
          simp only [Sem.run_bind, Sem.run_pure, Result.andThen_ok, run_und (T := T), run_sizeOf (T := E) (s := e.sz), List.getElem?_toArray, List.getElem?_cons_zero, List.getElem?_cons_succ, run_und (T := T2), hg1, Bool.false_eq_true, ↓reduceIte, Bool.not_false, hroom]
          rw [hg2w]
          simp only [Result.andThen_ok, add_none, Nat.zero_add]
          simp only [Nat.add_zero] at hst
          rw [hst]
          rfl
        · intro j u hu
          rw [putAt_get _ _ _ _ hfit]
          rw [e.all_append] at hu
          have hlx : (e.all xs).length = s.n * e.sz := by rw [e.all_length, h2]
          by_cases hj : j < s.n * e.sz
          · rw [if_neg (by omega)]
            rw [List.getElem?_append_left (by omega)] at hu
            exact h7 j u hu
          · rw [List.getElem?_append_right (by omega), hlx] at hu
            rw [if_pos ⟨by omega, by have := (List.getElem?_eq_some_iff.1 hu).1; omega⟩]
            exact hu
        · have := Lies.change (w' := setBlk w b (.cells (putAt C0 (s.n * e.sz) (e.all ys)) E0 fz)) (L1 := L1) (L2 := L2) (b := b) (o := .cells C0 E0 fz) (o' := .cells (putAt C0 (s.n * e.sz) (e.all ys)) E0 fz) (by simpa using hl) (setBlk_get hbw) (fun i hi _ => setBlk_other hi)
          simpa using this
    · -- a new row
      have hgt : s.c < s.n + ys.length := by omega
      have hn63 : ¬ ((s.n + ys.length : Nat) : Int) > IntKind.i64.max := by
        simp only [IntKind.max, IntKind.signed, IntKind.bits]; simp; omega
      have h48 : ¬ (Builtin.nextslicecap (s.n + ys.length) s.c * bb > 2 ^ 48) := by
        have := growslice_fits (bytes := bb) hgt (by rw [hsn.1]; exact hlim)
        omega
      have holds : ∀ d, (Builtin.firstCells e.sz s.n s.val).run P { w with drawn := d } = .ok (e.all xs).toArray { w with drawn := d } := by
        intro d
        rcases hM with ⟨rfl, rfl, rfl⟩ | ⟨b, C0, E0, fz, h1, h2, h3, rfl, h5, h6, h7⟩
        · rfl
        · have hbw : ({ w with drawn := d } : World).heap[b]? = some (.cells C0 E0 fz) := hl.at_ (b, .cells C0 E0 fz) (by simp)
          have := run_loadCells_blk (P := P) (o := 0) hbw (e.all xs) (fun j v hv => by rw [Nat.zero_add]; exact h7 j v hv)
          rw [e.all_length, ← h2] at this
          simp only [Builtin.firstCells, SV.val, h1, this]
      let q : Question := .appendCap (s.n + ys.length) s.c E
      let nc : Nat := q.cut (w.tape w.drawn q)
      have hnc : s.n + ys.length ≤ nc := by
        show s.n + ys.length ≤ (s.n + ys.length) + _
        omega
      have hzn : (Builtin.zeroCells z.cells (nc - (s.n + ys.length))).size = (nc - (s.n + ys.length)) * e.sz := by
        simp [Builtin.zeroCells, hzc]
      refine ⟨⟨some ⟨w.heap.size, 0, none⟩, s.n + ys.length, nc⟩, { w with drawn := w.drawn + 1, heap := w.heap.push (.cells ((e.all xs).toArray ++ (e.all ys).toArray ++ Builtin.zeroCells z.cells (nc - (s.n + ys.length))) E) }, ?_, ⟨hw.1.os, hw.1.tape, hw.1.output⟩, _,
        hB _ [(w.heap.size, .cells ((e.all xs).toArray ++ (e.all ys).toArray ++ Builtin.zeroCells z.cells (nc - (s.n + ys.length))) E)] (.inr ⟨w.heap.size, _, E, (0, 0), rfl, by simp [hsn.1], hnc, rfl, ?_, .inl rfl, ?_⟩), ?_⟩
      · have hq : q.forced = false := rfl
        have hinf : ∀ w : World, (typeInfo E).run P w = .ok i w := by intro w; simp [typeInfo, hi1]
        have hso := holds (w.drawn + 1)
        have hgo := hg2 (w.drawn + 1)
        have c1 : ¬ (((s.n + ys.length : Nat) : Int) > IntKind.i64.max ∧ (false = true ∨ i.bytes = 0)) := fun h => hn63 h.1
        simp only [Builtin.append_, SV.val] at hso ⊢
        simp only [Sem.run_bind, Sem.run_pure, Result.andThen_ok, run_und (T := T), run_sizeOf (T := E) (s := e.sz), List.getElem?_toArray, List.getElem?_cons_zero, List.getElem?_cons_succ, run_und (T := T2), hg1, Bool.false_eq_true, ↓reduceIte, Bool.not_false, hroom, hinf, hi3]
        rw [if_neg (by rw [← hi3]; exact fun h => hn63 h.1)]
        simp only [Sem.run_bind, hinf, hi3, Result.andThen_ok]
        rw [if_neg h48]
        simp only [Sem.run_bind, Sem.run_pure, run_choose]
        rw [show (Question.appendCap (s.n + ys.length) s.c E).forced = false from rfl]
        simp only [Bool.false_eq_true, ↓reduceIte, Result.andThen_ok, hinf, run_askRoom, hso, hgo, run_zero (T := E)]
        rfl
      · rw [Array.size_append, Array.size_append, hzn]
        simp only [List.size_toArray, e.all_length, ← Nat.add_mul]
        congr 1
        omega
      · intro j u hu
        rw [e.all_append] at hu
        have hj := (List.getElem?_eq_some_iff.1 hu).1
        rw [Array.getElem?_append_left (by simp at hj ⊢; exact hj)]
        simpa using hu
      · have := hl.push (.cells ((e.all xs).toArray ++ (e.all ys).toArray ++ Builtin.zeroCells z.cells (nc - (s.n + ys.length))) E)
        exact ⟨this.nodup, this.at_⟩

/-- append(s, s2...) of a slice of the call's own; s2 is whatever slice can be read. -/
theorem st_append {T T2 E E2 : TypeId} {x y : Operand} {s s2 : SV} {sz bb : Nat} {z : Value} {α : Type} {e : Enc α} {xs ys : List α} {C : Hp → Heap} (hx : evo t x = some s.val) (hy : evo t y = some s2.val) [hT : Und P T (.slice E)] [hT2 : Und P T2 (.slice E2)] [hE : Inf P E sz bb z] [hf : FocR H s e xs C] [hs : Sl H s2 e ys]
    (hsz : sz = e.sz) (hzc : z.cells.size = sz) (hlim : (xs.length + ys.length) * bb ≤ 140737488355328) (hlim2 : xs.length + ys.length ≤ 140737488355328) :
    St G P ⟨dst, .call ⟨.builtin .append, #[x, y], #[T, T2]⟩, ty, pos, after, g⟩ t H (fun u H' => ∃ s' : SV, u = s'.val ∧ H' = C (Row s' e (xs ++ ys))) :=
  fun ρ hρ w hw => by
    subst hsz
    have hg : Gives P e.sz s2.val ys.length (e.all ys) w := by
      obtain ⟨h1, _, h3⟩ := hs.get hw
      refine ⟨by simp [Builtin.lenOf, SV.val, h1], fun d => ?_⟩
      rcases h3 with ⟨rfl, _⟩ | ⟨b, off, C0, E0, fz, h4, hb, _, h6⟩
      · rw [List.length_nil, firstCells_zero, Enc.all_nil]
      · have := run_loadCells_blk (P := P) (w := { w with drawn := d }) (o := off) hb (e.all ys) h6
        rw [e.all_length] at this
        simp only [Builtin.firstCells, SV.val, h4, this]
    obtain ⟨s', w', hr, hw'⟩ := run_append (ty := ty) (T := T) (T2 := T2) (d2 := .slice E2) (P := P) (E := E) (.inr ⟨E2, rfl⟩) rfl hzc (hf := hf) hw hg rfl rfl hlim hlim2
    have : (execOp ρ ⟨dst, .call ⟨.builtin .append, #[x, y], #[T, T2]⟩, ty, pos, after, g⟩).run P w = .ok (.value s'.val) w' := by
      simp only [execOp, resolve, invoke, builtin, List.map_toArray, List.map_cons, List.map_nil, hρ _ _ hx, hρ _ _ hy, Sem.run_bind, Sem.run_pure, Result.andThen_ok, hr]
    rw [this]
    exact ⟨_, hw', s', rfl, rfl⟩
end
end Go.Sx
namespace Go.Sx
open Go

/-! ## Regions that draw their order -/
section
variable (G : Base) (P : Program) (ops : Array Oper)

/-- An operation, said of frames and symbolic heaps. -/
def DoesK (o : Oper) (a : Act) (K : Act → Heap → Prop) : Result Next → Prop
  | .ok (.value v) w' => ∃ H', Sat G w' H' ∧ K (a.put o.dst v) H'
  | .ok .skip w' => ∃ H', Sat G w' H' ∧ K (a.put o.dst undef) H'
  | .ok (.enter f args) w' => Calls P f args w' fun e w'' => match e with
    | .returned v => ∃ H', Sat G w'' H' ∧ K (a.put o.dst v) H'
    | _ => False
  | _ => False

def OpK (i : Nat) (K : Act → Heap → Prop) (a : Act) (H : Heap) : Prop :=
  match ops[i]? with
  | none => K a H
  | some o => if Region.wanted o (yielded ops a.tmps) then ∀ w, Sat G w H → DoesK G P o a K ((execOp a.eval o).run P w) else K (a.put o.dst undef) H

/-- No loud operation that waits for i has come up. -/
def Live (loud : Nat → Bool) (i : Nat) (listed : Array Bool) : Prop :=
  ∀ (j : Nat) (oj : Oper), ops[j]? = some oj → loud j = true → listed.getD j false = true → ∀ e ∈ oj.after, Region.binds .any e = true → e.on ≠ i

/-- Whatever order is picked from here on. -/
def AnyK (loud : Nat → Bool) (F : Nat → Heap → Prop) (K : Act → Heap → Prop) : Nat → Array Bool → Act → Heap → Prop
  | 0, listed, a, H => (∀ i, Live ops loud i listed → F i H) ∧ Region.ready .any ops listed = [] ∧ K a H
  | fuel + 1, listed, a, H => (∀ i, Live ops loud i listed → F i H) ∧ (Region.ready .any ops listed = [] → K a H) ∧
    ∀ i ∈ Region.ready .any ops listed, OpK G P ops i (AnyK loud F K fuel (listed.setIfInBounds i true)) a H

/-- What a quiet operation gives in the heap H. -/
def Quiet (o : Oper) (a : Act) (H : Heap) (v : Value) : Prop :=
  ∀ w, Sat G w H → match (execOp a.eval o).run P w with
    | .ok (.value u) w' => u = v ∧ Sat G w' H
    | .ok .skip w' => undef = v ∧ Sat G w' H
    | .ok (.enter f args) w' => Calls P f args w' fun e w'' => match e with
      | .returned u => u = v ∧ Sat G w'' H
      | _ => False
    | _ => False
/-- It yields v, whatever order is picked, as long as the fact F holds. -/
def Yields (F : Heap → Prop) (o : Oper) (a : Act) (v : Value) : Prop :=
  (Region.wanted o (yielded ops a.tmps) = true ∧ ∀ H, F H → Quiet G P o a H v) ∨ (Region.wanted o (yielded ops a.tmps) = false ∧ v = undef)
end

section
variable {G : Base} {P : Program} {ops : Array Oper} {loud : Nat → Bool} {F : Nat → Heap → Prop} {K : Act → Heap → Prop}

theorem DoesK.mono {o : Oper} {a : Act} {K K' : Act → Heap → Prop} (h : ∀ a H, K a H → K' a H) {r : Result Next} (hr : DoesK G P o a K r) : DoesK G P o a K' r := by
  cases r with
  | ok n w' =>
    cases n <;> simp only [DoesK] at hr ⊢
    case value v => obtain ⟨H', h1, h2⟩ := hr; exact ⟨H', h1, h _ _ h2⟩
    case skip => obtain ⟨H', h1, h2⟩ := hr; exact ⟨H', h1, h _ _ h2⟩
    case enter f args =>
      exact hr.mono fun e w'' he => by
        cases e with
        | returned v => obtain ⟨H', h1, h2⟩ := he; exact ⟨H', h1, h _ _ h2⟩
        | _ => exact he
  | halt x w' => simp only [DoesK] at hr
theorem OpK.mono {i : Nat} {a : Act} {H : Heap} {K K' : Act → Heap → Prop} (h : ∀ a H, K a H → K' a H) (hh : OpK G P ops i K a H) : OpK G P ops i K' a H := by
  unfold OpK at *
  split
  · exact h _ _ (by simpa [*] using hh)
  · rename_i o ho
    simp only [ho] at hh
    split
    · rename_i hw; simp only [hw, if_true] at hh; exact fun w hs => (hh w hs).mono h
    · rename_i hw; simp only [hw] at hh; exact h _ _ hh

theorem OpK.wpOp {i : Nat} {a : Act} {H : Heap} {w : World} {K' : Act → World → Prop} {Q' : Exit → Act → World → Prop} (hw : Sat G w H) (h : ∀ a w' H', Sat G w' H' → K a H' → K' a w') (hh : OpK G P ops i K a H) : wpOp P ops Q' i K' a w := by
  unfold OpK at hh
  unfold Go.wpOp
  split
  · rename_i ho; simp only [ho] at hh; exact h _ _ _ hw hh
  · rename_i o ho
    simp only [ho] at hh
    split
    · rename_i hwt
      simp only [hwt, if_true] at hh
      have h3 := hh w hw
      refine .inl ?_
      unfold Oper.wp
      generalize (execOp a.eval o).run P w = r at *
      cases r with
      | ok n w' =>
        cases n <;> simp only [DoesK] at h3 <;> simp only [Oper.upon]
        case value v => obtain ⟨H', h1, h2⟩ := h3; exact h _ _ _ h1 h2
        case skip => obtain ⟨H', h1, h2⟩ := h3; exact h _ _ _ h1 h2
        case enter f args =>
          exact h3.mono fun e w'' he => by
            cases e with
            | returned v => obtain ⟨H', h1, h2⟩ := he; exact h _ _ _ h1 h2
            | _ => exact he.elim
      | halt x w' => simp only [DoesK] at h3
    · rename_i hwt
      simp only [hwt] at hh
      exact h _ _ _ hw hh

theorem AnyK.sound {Q' : Exit → Act → World → Prop} (hQ : ∀ a w H, Sat G w H → K a H → Q' .normal a w) : ∀ (fuel : Nat) (listed : Array Bool) (a : Act) (w : World) (H : Heap), Sat G w H →
    AnyK G P ops loud F K fuel listed a H → wpAny P .any ops Q' fuel listed a w
  | 0, _, _, _, _, hw, h => ⟨h.2.1, hQ _ _ _ hw h.2.2⟩
  | fuel + 1, _, _, _, _, hw, h => ⟨fun h0 => hQ _ _ _ hw (h.2.1 h0), fun i hi => (h.2.2 i hi).wpOp hw (fun a' w' H' hw' h' => AnyK.sound hQ fuel _ a' w' H' hw' h')⟩

theorem AnyK.facts {fuel : Nat} {listed : Array Bool} {a : Act} {H : Heap} (h : AnyK G P ops loud F K fuel listed a H) : ∀ i, Live ops loud i listed → F i H := by
  cases fuel with
  | zero => exact h.1
  | succ n => exact h.1

theorem Live.of_set {i k : Nat} {listed : Array Bool} (hl : loud i = false) (h : Live ops loud k listed) : Live ops loud k (listed.setIfInBounds i true) := by
  intro j oj hj hlj hlist
  by_cases hij : i = j
  · subst hij; rw [hl] at hlj; cases hlj
  · rw [getD_set_ne false hij] at hlist; exact h j oj hj hlj hlist

theorem Yields.opK {i : Nat} {o : Oper} {v : Value} {a : Act} {H : Heap} {F : Heap → Prop} (hi : ops[i]? = some o) (hy : Yields G P ops F o a v) (hF : F H) (h : K (a.put o.dst v) H) : OpK G P ops i K a H := by
  unfold Go.Sx.OpK
  simp only [hi]
  rcases hy with ⟨hw, hv⟩ | ⟨hw, rfl⟩
  · simp only [hw, if_true]
    intro w hs
    have h3 := hv H hF w hs
    generalize (execOp a.eval o).run P w = r at *
    cases r with
    | ok n w' =>
      cases n <;> simp only at h3
      case value u => obtain ⟨rfl, h4⟩ := h3; exact ⟨H, h4, h⟩
      case skip => obtain ⟨rfl, h4⟩ := h3; exact ⟨H, h4, h⟩
      case enter f args =>
        exact h3.mono fun e w'' he => by
          cases e with
          | returned u => obtain ⟨rfl, h4⟩ := he; exact ⟨H, h4, h⟩
          | _ => exact he
    | halt x w' => exact h3.elim
  · simp only [hw, Bool.false_eq_true, if_false]; exact h

theorem OpK.put {j : Nat} {oi oj : Oper} {v : Value} {F : Heap → Prop} (hj : ops[j]? = some oj) (hap : oi.apart ops oj = true)
    (hsi : ∀ cs b, oi.op ≠ .select cs b) (hsj : ∀ cs b, oj.op ≠ .select cs b) {K : Act → Heap → Prop} {a : Act} {H : Heap}
    (hy : Yields G P ops F oi a v) (h : OpK G P ops j K (a.put oi.dst v) H) :
    OpK G P ops j (fun a' H' => Yields G P ops F oi a' v ∧ K (a'.put oi.dst v) H') a H := by
  obtain ⟨h1, h2, h3⟩ := Oper.apart_spec hap
  have keep : ∀ (a : Act), Yields G P ops F oi a v → ∀ u, Yields G P ops F oi (a.put oj.dst u) v := fun a hy u => by
    unfold Yields Quiet at *
    rw [execOp_put oi hsi a oj.dst u h3, wanted_put oi a oj.dst u h3]
    exact hy
  unfold OpK at *
  simp only [hj] at *
  rw [wanted_put oj a oi.dst v h1] at h
  split
  · rename_i hw
    simp only [hw, if_true] at h
    intro w hs
    have h4 := h w hs
    rw [execOp_put oj hsj a oi.dst v h1] at h4
    generalize (execOp a.eval oj).run P w = r at *
    cases r with
    | ok n w' =>
      cases n <;> simp only [DoesK] at h4 ⊢
      case value u => obtain ⟨H', q1, q2⟩ := h4; exact ⟨H', q1, keep a hy u, by rw [← Act.put_comm a v u h2]; exact q2⟩
      case skip => obtain ⟨H', q1, q2⟩ := h4; exact ⟨H', q1, keep a hy _, by rw [← Act.put_comm a v undef h2]; exact q2⟩
      case enter f args =>
        exact h4.mono fun e w'' he => by
          cases e with
          | returned u => obtain ⟨H', q1, q2⟩ := he; exact ⟨H', q1, keep a hy u, by rw [← Act.put_comm a v u h2]; exact q2⟩
          | _ => exact he
    | halt x w' => simp only [DoesK] at h4
  · rename_i hw
    simp only [hw] at h
    exact ⟨keep a hy _, by rw [← Act.put_comm a v undef h2]; exact h⟩

/-- **A quiet operation that may come up now may be taken first.** -/
theorem AnyK.first {i : Nat} {oi : Oper} {v : Value} (hi : ops[i]? = some oi) (hl : loud i = false) (hsel : ∀ (j : Nat) (o : Oper) cs b, ops[j]? = some o → o.op ≠ .select cs b) :
    ∀ (fuel : Nat) (listed : Array Bool) (a : Act) (H : Heap),
      (∀ j oj, ops[j]? = some oj → j ≠ i → listed.getD j true = false → (∀ e ∈ oj.after, Region.binds .any e = true → e.on ≠ i) → oi.apart ops oj = true) →
      (∀ j oj, ops[j]? = some oj → listed.getD j false = true → ∀ e ∈ oj.after, Region.binds .any e = true → e.on ≠ i) →
      i ∈ Region.ready .any ops listed → Yields G P ops (F i) oi a v →
      AnyK G P ops loud F K fuel (listed.setIfInBounds i true) (a.put oi.dst v) H → AnyK G P ops loud F K (fuel + 1) listed a H := by
  intro fuel
  induction fuel with
  | zero =>
    intro listed a H _ hw hr hy h
    have hF : F i H := h.1 i (Live.of_set hl fun j oj hj _ hlj => hw j oj hj hlj)
    refine ⟨fun k hk => h.1 k (hk.of_set hl), fun h0 => (by rw [h0] at hr; cases hr), fun j hj => ?_⟩
    by_cases hji : j = i
    · subst hji; exact hy.opK hi hF h
    · have := ready_mono hj hji
      rw [h.2.1] at this
      cases this
  | succ fuel ih =>
    intro listed a H hfree hw hr hy h
    have hF : F i H := h.1 i (Live.of_set hl fun j oj hj _ hlj => hw j oj hj hlj)
    refine ⟨fun k hk => h.1 k (hk.of_set hl), fun h0 => (by rw [h0] at hr; cases hr), fun j hj => ?_⟩
    by_cases hji : j = i
    · subst hji; exact hy.opK hi hF h
    · have h1 := h.2.2 j (ready_mono hj hji)
      obtain ⟨hjun, oj, hoj, hall⟩ := mem_ready.1 hj
      have hnot : ∀ e ∈ oj.after, Region.binds .any e = true → e.on ≠ i := fun e he hb heq => by
        have h1 := hall e he hb
        have h0 := (mem_ready.1 hr).1
        rw [heq] at h1
        rcases Nat.lt_or_ge i listed.size with h' | h'
        · simp [h'] at h0 h1; rw [h0] at h1; cases h1
        · simp [Array.getElem?_eq_none h'] at h1
      have h2 := OpK.put hoj (hfree j oj hoj hji hjun hnot) (fun cs b => hsel i oi cs b hi) (fun cs b => hsel j oj cs b hoj) hy h1
      have hfree' : ∀ k ok, ops[k]? = some ok → k ≠ i → (listed.setIfInBounds j true).getD k true = false →
          (∀ e ∈ ok.after, Region.binds .any e = true → e.on ≠ i) → oi.apart ops ok = true := fun k ok hk hki hun hno => by
        refine hfree k ok hk hki ?_ hno
        by_cases hjk : j = k
        · subst hjk; exact hjun
        · rw [getD_set_ne true hjk] at hun; exact hun
      have hw' : ∀ k ok, ops[k]? = some ok → (listed.setIfInBounds j true).getD k false = true → ∀ e ∈ ok.after, Region.binds .any e = true → e.on ≠ i := fun k ok hk hlk => by
        by_cases hjk : j = k
        · subst hjk
          obtain rfl : ok = oj := Option.some.inj (hk.symm.trans hoj)
          exact hnot
        · rw [getD_set_ne false hjk] at hlk; exact hw k ok hk hlk
      refine OpK.mono (fun a' H' h3 => ih (listed.setIfInBounds j true) a' H' hfree' hw' (ready_mono hr (Ne.symm hji)) h3.1 ?_) h2
      rw [Array.setIfInBounds_comm _ _ hji]
      exact h3.2

/-! ### As goals -/
structure An (G : Base) (P : Program) (N : Nat) (ops : Array Oper) (loud : Nat → Bool) (F : Nat → Heap → Prop) (Q : Post) (fuel : Nat) (listed : Array Bool) (t : Tm) (H : Heap) : Prop where
  go : ∀ a, Fr N t a → AnyK G P ops loud F (fun a H => ∃ t, Fr N t a ∧ Q .normal t H) fuel listed a H

def closedB (ops : Array Oper) (listed : Array Bool) (i : Nat) : Bool :=
  (List.range ops.size).all fun j => !listed.getD j false || match ops[j]? with
    | some oj => oj.after.all fun e => !(Region.binds .any e && e.on == i)
    | none => true
theorem closedB_spec {listed : Array Bool} {i : Nat} (h : closedB ops listed i = true) : ∀ j oj, ops[j]? = some oj → listed.getD j false = true → ∀ e ∈ oj.after, Region.binds .any e = true → e.on ≠ i := by
  intro j oj hj hl e he hb heq
  have hlt : j < ops.size := (Array.getElem?_eq_some_iff.1 hj).1
  have h1 := List.all_eq_true.1 h j (List.mem_range.2 hlt)
  simp only [hl, Bool.not_true, Bool.false_or, hj] at h1
  have h2 := Array.all_eq_true'.1 h1 e he
  simp [hb, heq] at h2

variable {N : Nat} {Q : Post} {t : Tm} {H : Heap}

theorem w_draw {id : Nat} {l : List Oper} (hm : P.follows .mixedOrders = true) (loud : Nat → Bool) (F : Nat → Heap → Prop) (h : An G P N l.toArray loud F Q l.length (Array.replicate l.length false) t H) : W G P N (.region id l.toArray true) Q t H :=
  ⟨fun a w ha hw => wp_region_any hm (AnyK.sound (G := G) (loud := loud) (F := F) (K := fun a H => ∃ t, Fr N t a ∧ Q .normal t H) (fun a w H hw ⟨t, h1, h2⟩ => ⟨t, H, h1, hw, h2⟩) _ _ _ _ H (hw.same rfl ⟨hw.1.os, hw.1.tape, hw.1.output⟩) (by simpa using h.go a ha))⟩

theorem an_nil {listed : Array Bool} (hr : (Region.ready .any ops listed).isEmpty = true) (hF : ∀ i, Live ops loud i listed → F i H) (h : Q .normal t H) : An G P N ops loud F Q 0 listed t H :=
  ⟨fun _ ha => ⟨hF, by simpa using hr, t, ha, h⟩⟩

/-- In every heap in which F holds the operation yields v and leaves the heap. -/
def Qv (G : Base) (P : Program) (F : Heap → Prop) (o : Oper) (t : Tm) (v : Value) : Prop := ∀ H, F H → St G P o t H (fun u H' => u = v ∧ H' = H)
theorem Qv.of_ev {F : Heap → Prop} {o : Oper} {v : Value} (h : ∀ H, F H → Ev G P o t H v) : Qv G P F o t v := fun H hF => (h H hF).st

theorem Qv.quiet {F : Heap → Prop} {o : Oper} {v : Value} {a : Act} (ha : Fr N t a) (h : Qv G P F o t v) {H : Heap} (hF : F H) : Quiet G P o a H v := by
  intro w hw
  have h1 := h H hF a.eval ha.agree w hw
  generalize (execOp a.eval o).run P w = r at *
  cases r with
  | ok n w' =>
    cases n <;> simp only [Does] at h1 ⊢
    case value u => obtain ⟨H', q1, rfl, rfl⟩ := h1; exact ⟨rfl, q1⟩
    case skip => obtain ⟨H', q1, rfl, rfl⟩ := h1; exact ⟨rfl, q1⟩
    case enter f args =>
      exact h1.mono fun e w'' he => by
        cases e with
        | returned u => obtain ⟨H', q1, rfl, rfl⟩ := he; exact ⟨rfl, q1⟩
        | _ => exact he
  | halt x w' => simp only [Does] at h1


def firstB (ops : Array Oper) (listed : Array Bool) (i : Nat) : Bool :=
  Region.noSelect ops && Region.free .any ops listed i && closedB ops listed i && (Region.ready .any ops listed).contains i

theorem an_yield {loud : Nat → Bool} {F : Nat → Heap → Prop} {fuel : Nat} {listed : Array Bool} {i : Nat} {o : Oper} {v : Value} (hi : ops[i]? = some o) (hl : loud i = false) (hb : firstB ops listed i = true) (hd : fits N o.dst = true)
    (hy : ∀ a, Fr N t a → Yields G P ops (F i) o a v) (h : An G P N ops loud F Q fuel (listed.setIfInBounds i true) (put t o.dst v) H) : An G P N ops loud F Q (fuel + 1) listed t H := by
  simp only [firstB, Bool.and_eq_true] at hb
  obtain ⟨⟨⟨h1, h2⟩, h3⟩, h4⟩ := hb
  exact ⟨fun a ha => AnyK.first hi hl (Region.noSelect_spec h1) fuel listed a H (Region.free_spec hi h2) (closedB_spec h3) (by simpa using h4) (hy a ha) (h.go _ (ha.put hd v))⟩

/-- A quiet operation is taken first. -/
theorem an_first {loud : Nat → Bool} {F : Nat → Heap → Prop} {fuel : Nat} {listed : Array Bool} {dst : Option Tmp} {op : Op} {ty : TypeId} {pos : String} {after : Array Edge} {v : Value} (i : Nat) (hi : ops[i]? = some ⟨dst, op, ty, pos, after, none⟩) (hl : loud i = false) (hb : firstB ops listed i = true) (hd : fits N dst = true)
    (hq : Qv G P (F i) ⟨dst, op, ty, pos, after, none⟩ t v) (h : An G P N ops loud F Q fuel (listed.setIfInBounds i true) (put t dst v) H) : An G P N ops loud F Q (fuel + 1) listed t H :=
  an_yield hi hl hb hd (fun _ ha => .inl ⟨by simp [Region.wanted], fun _ hF => hq.quiet ha hF⟩) h
theorem an_on {loud : Nat → Bool} {F : Nat → Heap → Prop} {fuel : Nat} {listed : Array Bool} {dst : Option Tmp} {op : Op} {ty : TypeId} {pos : String} {after : Array Edge} {v : Value} {j d : Nat} {want : Bool} (i : Nat) (hi : ops[i]? = some ⟨dst, op, ty, pos, after, some (j, want)⟩) (hj : (ops[j]?).bind (·.dst) = some d) (hv : look t d = some (.bool want)) (hl : loud i = false) (hb : firstB ops listed i = true) (hd : fits N dst = true)
    (hq : Qv G P (F i) ⟨dst, op, ty, pos, after, some (j, want)⟩ t v) (h : An G P N ops loud F Q fuel (listed.setIfInBounds i true) (put t dst v) H) : An G P N ops loud F Q (fuel + 1) listed t H :=
  an_yield hi hl hb hd (fun _ ha => .inl ⟨by rw [wanted_of (o := ⟨dst, op, ty, pos, after, some (j, want)⟩) ha rfl hj hv]; simp, fun _ hF => hq.quiet ha hF⟩) h
theorem an_off {loud : Nat → Bool} {F : Nat → Heap → Prop} {fuel : Nat} {listed : Array Bool} {dst : Option Tmp} {op : Op} {ty : TypeId} {pos : String} {after : Array Edge} {j d : Nat} {want : Bool} (i : Nat) (hi : ops[i]? = some ⟨dst, op, ty, pos, after, some (j, want)⟩) (hj : (ops[j]?).bind (·.dst) = some d) (hv : look t d = some (.bool !want)) (hl : loud i = false) (hb : firstB ops listed i = true) (hd : fits N dst = true)
    (h : An G P N ops loud F Q fuel (listed.setIfInBounds i true) (put t dst undef) H) : An G P N ops loud F Q (fuel + 1) listed t H :=
  an_yield hi hl hb hd (fun _ ha => .inr ⟨by rw [wanted_of (o := ⟨dst, op, ty, pos, after, some (j, want)⟩) ha rfl hj hv]; simp, rfl⟩) h

/-- The boolean that an operation yields parts the ways. -/
theorem an_split {loud : Nat → Bool} {F : Nat → Heap → Prop} {fuel : Nat} {listed : Array Bool} {dst : Option Tmp} {op : Op} {ty : TypeId} {pos : String} {after : Array Edge} {b : Bool} (i : Nat) (hi : ops[i]? = some ⟨dst, op, ty, pos, after, none⟩) (hl : loud i = false) (hb : firstB ops listed i = true) (hd : fits N dst = true)
    (hq : Qv G P (F i) ⟨dst, op, ty, pos, after, none⟩ t (.bool b)) (h1 : b = true → An G P N ops loud F Q fuel (listed.setIfInBounds i true) (put t dst (.bool true)) H) (h2 : b = false → An G P N ops loud F Q fuel (listed.setIfInBounds i true) (put t dst (.bool false)) H) : An G P N ops loud F Q (fuel + 1) listed t H :=
  an_first i hi hl hb hd hq (by cases b with | true => exact h1 rfl | false => exact h2 rfl)

/-- The one operation that may come up. -/
theorem an_step {loud : Nat → Bool} {F : Nat → Heap → Prop} {fuel : Nat} {listed : Array Bool} {dst : Option Tmp} {op : Op} {ty : TypeId} {pos : String} {after : Array Edge} {R : Value → Heap → Prop} (i : Nat) (hi : ops[i]? = some ⟨dst, op, ty, pos, after, none⟩) (hr : Region.ready .any ops listed = [i]) (hd : fits N dst = true)
    (hF : ∀ i, Live ops loud i listed → F i H) (hs : St G P ⟨dst, op, ty, pos, after, none⟩ t H R) (h : ∀ v H', R v H' → An G P N ops loud F Q fuel (listed.setIfInBounds i true) (put t dst v) H') : An G P N ops loud F Q (fuel + 1) listed t H :=
  ⟨fun a ha => ⟨hF, fun h0 => (by rw [h0] at hr; cases hr), fun j hj => by
    rw [hr] at hj
    obtain rfl : j = i := by simpa using hj
    unfold OpK
    simp only [hi]
    rw [if_pos (by simp [Region.wanted])]
    intro w hw
    have h1 := hs a.eval ha.agree w hw
    generalize (execOp a.eval _).run P w = r at *
    cases r with
    | ok n w' =>
      cases n <;> simp only [Does] at h1 <;> simp only [DoesK]
      case value u => obtain ⟨H', q1, q2⟩ := h1; exact ⟨H', q1, (h u H' q2).go _ (ha.put hd u)⟩
      case skip => obtain ⟨H', q1, q2⟩ := h1; exact ⟨H', q1, (h _ H' q2).go _ (ha.put hd _)⟩
      case enter f args =>
        exact h1.mono fun e w'' he => by
          cases e with
          | returned u => obtain ⟨H', q1, q2⟩ := he; exact ⟨H', q1, (h u H' q2).go _ (ha.put hd u)⟩
          | _ => exact he
    | halt x w' => simp only [Does] at h1⟩⟩
/-- Two operations that may come up: either. -/
theorem an_two {loud : Nat → Bool} {F : Nat → Heap → Prop} {fuel : Nat} {listed : Array Bool} {dst dst2 : Option Tmp} {op op2 : Op} {ty ty2 : TypeId} {pos pos2 : String} {after after2 : Array Edge} {R R2 : Value → Heap → Prop} (i j : Nat) (hi : ops[i]? = some ⟨dst, op, ty, pos, after, none⟩) (hj : ops[j]? = some ⟨dst2, op2, ty2, pos2, after2, none⟩) (hr : Region.ready .any ops listed = [i, j]) (hd : fits N dst = true) (hd2 : fits N dst2 = true)
    (hF : ∀ i, Live ops loud i listed → F i H) (hs : St G P ⟨dst, op, ty, pos, after, none⟩ t H R) (hs2 : St G P ⟨dst2, op2, ty2, pos2, after2, none⟩ t H R2) (h : ∀ v H', R v H' → An G P N ops loud F Q fuel (listed.setIfInBounds i true) (put t dst v) H') (h2 : ∀ v H', R2 v H' → An G P N ops loud F Q fuel (listed.setIfInBounds j true) (put t dst2 v) H') : An G P N ops loud F Q (fuel + 1) listed t H :=
  ⟨fun a ha => ⟨hF, fun h0 => (by rw [h0] at hr; cases hr), fun k hk => by
    rw [hr] at hk
    have key : ∀ (m : Nat) (dst : Option Tmp) (op : Op) (ty : TypeId) (pos : String) (after : Array Edge) (R : Value → Heap → Prop), ops[m]? = some ⟨dst, op, ty, pos, after, none⟩ → fits N dst = true → St G P ⟨dst, op, ty, pos, after, none⟩ t H R → (∀ v H', R v H' → An G P N ops loud F Q fuel (listed.setIfInBounds m true) (put t dst v) H') →
        OpK G P ops m (AnyK G P ops loud F (fun a H => ∃ t, Fr N t a ∧ Q .normal t H) fuel (listed.setIfInBounds m true)) a H := by
      intro m dst op ty pos after R hi hd hs h
      unfold OpK
      simp only [hi]
      rw [if_pos (by simp [Region.wanted])]
      intro w hw
      have h1 := hs a.eval ha.agree w hw
      generalize (execOp a.eval _).run P w = r at *
      cases r with
      | ok n w' =>
        cases n <;> simp only [Does] at h1 <;> simp only [DoesK]
        case value u => obtain ⟨H', q1, q2⟩ := h1; exact ⟨H', q1, (h u H' q2).go _ (ha.put hd u)⟩
        case skip => obtain ⟨H', q1, q2⟩ := h1; exact ⟨H', q1, (h _ H' q2).go _ (ha.put hd _)⟩
        case enter f args =>
          exact h1.mono fun e w'' he => by
            cases e with
            | returned u => obtain ⟨H', q1, q2⟩ := he; exact ⟨H', q1, (h u H' q2).go _ (ha.put hd u)⟩
            | _ => exact he
      | halt x w' => simp only [Does] at h1
    rcases List.mem_cons.1 hk with rfl | hk
    · exact key _ _ _ _ _ _ _ hi hd hs h
    · obtain rfl : k = j := by simpa using hk
      exact key _ _ _ _ _ _ _ hj hd2 hs2 h2⟩⟩

/-- Regions without an operation that changes the heap. -/
abbrev still : Nat → Bool := fun _ => false
abbrev at_ (H : Heap) : Nat → Heap → Prop := fun _ H' => H' = H
theorem qv_at {H : Heap} {o : Oper} {v : Value} (h : Ev G P o t H v) : Qv G P (fun H' => H' = H) o t v := fun _ e => by rw [e]; exact h.st
theorem qv_call {H : Heap} {dst : Option Tmp} {f : FuncId} {xs : List Operand} {ats : Array TypeId} {ty : TypeId} {pos : String} {after : Array Edge} {g : Option (Nat × Bool)} {vs : List Value} {v : Value} (hx : evos t xs = some vs) (hc : SC G P f vs H (fun u H' => u = v ∧ H' = H)) :
    Qv G P (fun H' => H' = H) ⟨dst, .call ⟨.value (.func f), xs.toArray, ats⟩, ty, pos, after, g⟩ t v := fun _ e => by rw [e]; exact st_call hx hc

/-! ### Guards in regions of one order -/
theorem o_on {l : List Oper} {dst : Option Tmp} {op : Op} {ty : TypeId} {pos : String} {after : Array Edge} {j d : Nat} {want : Bool} {R : Value → Heap → Prop} (hj : (ops[j]?).bind (·.dst) = some d) (hv : look t d = some (.bool want)) (hd : fits N dst = true)
    (h : St G P ⟨dst, op, ty, pos, after, some (j, want)⟩ t H R) (hk : ∀ v H', R v H' → O G P N ops l Q (put t dst v) H') : O G P N ops (⟨dst, op, ty, pos, after, some (j, want)⟩ :: l) Q t H :=
  o_guard_st hj hv (fun _ => h) hd (fun _ => hk) (fun h => absurd rfl h)
theorem o_on_ev {l : List Oper} {dst : Option Tmp} {op : Op} {ty : TypeId} {pos : String} {after : Array Edge} {j d : Nat} {want : Bool} {v : Value} (hj : (ops[j]?).bind (·.dst) = some d) (hv : look t d = some (.bool want)) (hd : fits N dst = true)
    (h : Ev G P ⟨dst, op, ty, pos, after, some (j, want)⟩ t H v) (hk : O G P N ops l Q (put t dst v) H) : O G P N ops (⟨dst, op, ty, pos, after, some (j, want)⟩ :: l) Q t H :=
  o_on hj hv hd h.st (fun _ _ ⟨e1, e2⟩ => by rw [e1, e2]; exact hk)
theorem o_off {l : List Oper} {dst : Option Tmp} {op : Op} {ty : TypeId} {pos : String} {after : Array Edge} {j d : Nat} {want : Bool} (hj : (ops[j]?).bind (·.dst) = some d) (hv : look t d = some (.bool !want)) (hd : fits N dst = true)
    (hk : O G P N ops l Q (put t dst undef) H) : O G P N ops (⟨dst, op, ty, pos, after, some (j, want)⟩ :: l) Q t H :=
  o_guard_st (R := fun _ _ => False) hj hv (fun h => absurd h (by cases want <;> simp)) hd (fun h => absurd h (by cases want <;> simp)) (fun _ => hk)
theorem o_split {l : List Oper} {dst : Option Tmp} {op : Op} {ty : TypeId} {pos : String} {after : Array Edge} {b : Bool} (h : Ev G P ⟨dst, op, ty, pos, after, none⟩ t H (.bool b)) (hd : fits N dst = true)
    (h1 : b = true → O G P N ops l Q (put t dst (.bool true)) H) (h2 : b = false → O G P N ops l Q (put t dst (.bool false)) H) : O G P N ops (⟨dst, op, ty, pos, after, none⟩ :: l) Q t H :=
  o_ev h hd (by cases b with | true => exact h1 rfl | false => exact h2 rfl)
/-- The same within a guard that holds. -/
theorem o_split_on {l : List Oper} {dst : Option Tmp} {op : Op} {ty : TypeId} {pos : String} {after : Array Edge} {b : Bool} {j d : Nat} {want : Bool} (hj : (ops[j]?).bind (·.dst) = some d) (hv : look t d = some (.bool want)) (h : Ev G P ⟨dst, op, ty, pos, after, some (j, want)⟩ t H (.bool b)) (hd : fits N dst = true)
    (h1 : b = true → O G P N ops l Q (put t dst (.bool true)) H) (h2 : b = false → O G P N ops l Q (put t dst (.bool false)) H) : O G P N ops (⟨dst, op, ty, pos, after, some (j, want)⟩ :: l) Q t H :=
  o_on_ev hj hv hd h (by cases b with | true => exact h1 rfl | false => exact h2 rfl)
end
end Go.Sx
namespace Go.Sx
open Go

section
variable {G : Base} {P : Program} {N : Nat} {Q : Post} {t : Tm} {H : Heap} {dst : Option Tmp} {ty : TypeId} {pos : String} {after : Array Edge} {g : Option (Nat × Bool)}

/-! ### append to a nil slice; of a string -/
theorem run_append_nil' {w : World} {T T2 E : TypeId} {d2 : TypeDesc} {v z : Value} {m sz bb : Nat} {cs : List Value} {α : Type} {e : Enc α} {ys : List α} [hT : Und P T (.slice E)] [hT2 : Und P T2 d2] [hE : Inf P E sz bb z] (hd2 : d2 = .string ∨ ∃ e2, d2 = .slice e2) (hsz : sz = e.sz) (hzc : z.cells.size = sz)
    (hw : Sat G w H) (hg : Gives P sz v m cs w) (hcs : cs = e.all ys) (hm : m = ys.length) (hlim : ys.length * bb ≤ 140737488355328) (hlim2 : ys.length ≤ 140737488355328) :
    ∃ (s' : SV) (w' : World), (Builtin.append_ #[T, T2] ty #[.slice none 0 0, v]).run P w = .ok s'.val w' ∧ Sat G w' (Row s' e ys :: H) := by
  have := run_append (ty := ty) (T := T) (T2 := T2) (xs := []) (ys := ys) (s := SV.nil) (e := e) hd2 hsz hzc (hf := FocR.head (H := H)) (hw.nilRow e) hg hcs hm (by simpa using hlim) (by simpa using hlim2)
  simp only [List.nil_append] at this
  exact this

theorem gives_slice {w : World} {s2 : SV} {α : Type} {e : Enc α} {ys : List α} [hs : Sl H s2 e ys] (hw : Sat G w H) : Gives P e.sz s2.val ys.length (e.all ys) w := by
  obtain ⟨h1, _, h3⟩ := hs.get hw
  refine ⟨by simp [Builtin.lenOf, SV.val, h1], fun d => ?_⟩
  rcases h3 with ⟨rfl, _⟩ | ⟨b, off, C0, E0, fz, h4, hb, _, h6⟩
  · rw [List.length_nil, firstCells_zero, Enc.all_nil]
  · have := run_loadCells_blk (P := P) (w := { w with drawn := d }) (o := off) hb (e.all ys) h6
    rw [e.all_length] at this
    simp only [Builtin.firstCells, SV.val, h4, this]

/-- A string's bytes as numbers. -/
def byts (s : ByteArray) : List Nat := s.data.toList.map (·.toNat)
theorem byts_length (s : ByteArray) : (byts s).length = s.size := by simp [byts]
theorem gives_string {w : World} (s : ByteArray) : Gives P eB.sz (.string s) (byts s).length (eB.all (byts s)) w := by
  refine ⟨by simp [Builtin.lenOf, byts_length], fun d => ?_⟩
  simp only [Builtin.firstCells, Sem.run_pure, byts_length, ByteArray.extract_zero_size]
  congr 1
  apply Array.ext'
  simp only [Enc.all, byts, eB, List.flatMap_map, Array.toList_map]
  induction s.data.toList with
  | nil => rfl
  | cons x xs ih => simp [ih]

theorem st_append_nil {T T2 E E2 : TypeId} {x y : Operand} {s2 : SV} {sz bb : Nat} {z : Value} {α : Type} {e : Enc α} {ys : List α} (hx : evo t x = some (.slice none 0 0)) (hy : evo t y = some s2.val) [hT : Und P T (.slice E)] [hT2 : Und P T2 (.slice E2)] [hE : Inf P E sz bb z] [hs : Sl H s2 e ys]
    (hsz : sz = e.sz) (hzc : z.cells.size = sz) (hlim : ys.length * bb ≤ 140737488355328) (hlim2 : ys.length ≤ 140737488355328) :
    St G P ⟨dst, .call ⟨.builtin .append, #[x, y], #[T, T2]⟩, ty, pos, after, g⟩ t H (fun u H' => ∃ s' : SV, u = s'.val ∧ H' = Row s' e ys :: H) :=
  fun ρ hρ w hw => by
    subst hsz
    obtain ⟨s', w', hr, hw'⟩ := run_append_nil' (ty := ty) (T := T) (T2 := T2) (d2 := .slice E2) (P := P) (E := E) (.inr ⟨E2, rfl⟩) rfl hzc hw (gives_slice (P := P) (hs := hs) hw) rfl rfl hlim hlim2
    have : (execOp ρ ⟨dst, .call ⟨.builtin .append, #[x, y], #[T, T2]⟩, ty, pos, after, g⟩).run P w = .ok (.value s'.val) w' := by
      simp only [execOp, resolve, invoke, builtin, List.map_toArray, List.map_cons, List.map_nil, hρ _ _ hx, hρ _ _ hy, Sem.run_bind, Sem.run_pure, Result.andThen_ok, hr]
    rw [this]
    exact ⟨_, hw', s', rfl, rfl⟩
theorem st_append_str {T T2 E : TypeId} {x y : Operand} {s : SV} {q : ByteArray} {bb : Nat} {z : Value} {xs : List Nat} {C : Hp → Heap} (hx : evo t x = some s.val) (hy : evo t y = some (.string q)) [hT : Und P T (.slice E)] [hT2 : Und P T2 .string] [hE : Inf P E 1 bb z] [hf : FocR H s eB xs C]
    (hzc : z.cells.size = 1) (hlim : (xs.length + q.size) * bb ≤ 140737488355328) (hlim2 : xs.length + q.size ≤ 140737488355328) :
    St G P ⟨dst, .call ⟨.builtin .append, #[x, y], #[T, T2]⟩, ty, pos, after, g⟩ t H (fun u H' => ∃ s' : SV, u = s'.val ∧ H' = C (Row s' eB (xs ++ byts q))) :=
  fun ρ hρ w hw => by
    obtain ⟨s', w', hr, hw'⟩ := run_append (ty := ty) (T := T) (T2 := T2) (d2 := .string) (P := P) (E := E) (ys := byts q) (.inl rfl) rfl hzc (hf := hf) hw (gives_string q) rfl rfl (by rw [byts_length]; exact hlim) (by rw [byts_length]; exact hlim2)
    have : (execOp ρ ⟨dst, .call ⟨.builtin .append, #[x, y], #[T, T2]⟩, ty, pos, after, g⟩).run P w = .ok (.value s'.val) w' := by
      simp only [execOp, resolve, invoke, builtin, List.map_toArray, List.map_cons, List.map_nil, hρ _ _ hx, hρ _ _ hy, Sem.run_bind, Sem.run_pure, Result.andThen_ok, hr]
    rw [this]
    exact ⟨_, hw', s', rfl, rfl⟩

/-! ### make, copy -/
theorem all_replicate {α : Type} (e : Enc α) (n : Nat) (x : α) : ∀ j, j < n * e.sz → (e.all (List.replicate n x))[j]? = (e.f x)[j % e.sz]? := by
  induction n with
  | zero => intro j h; omega
  | succ n ih =>
    intro j h
    rw [List.replicate_succ, Enc.all_cons]
    by_cases hj : j < e.sz
    · rw [List.getElem?_append_left (by rw [e.len]; exact hj), Nat.mod_eq_of_lt hj]
    · rw [List.getElem?_append_right (by rw [e.len]; omega), e.len, ih _ (by rw [Nat.add_mul] at h; omega)]
      rw [← Nat.mod_eq_sub_mod (by omega)]

/-- make([]T, n, c). -/
theorem st_make {T E : TypeId} {x y : Operand} {bb : Nat} {z : Value} {k k' : IntKind} {i j : Int} {α : Type} (e : Enc α) (x0 : α) [hT : Und P T (.slice E)] [hE : Inf P E e.sz bb z] (hx : evo t x = some (.int k i)) (hy : evo t y = some (.int k' j)) (n c : Nat) (hi : i = n) (hj : j = c) (hz : z.cells = (e.f x0).toArray) (hnc : n ≤ c) (hc : bb * c ≤ 281474976710656) (hc2 : c ≤ 281474976710656) :
    St G P ⟨dst, .makeSlice T x y, ty, pos, after, g⟩ t H (fun u H' => ∃ s : SV, u = s.val ∧ s.n = n ∧ s.c = c ∧ H' = Row s e (List.replicate n x0) :: H) :=
  fun ρ hρ w hw => by
    obtain ⟨inf, hi1, hi2, hi3, hi4⟩ := hE.out
    have hwc : IntKind.i64.wrap (c : Int) = c := wrap_in (by omega)
    have hwn : IntKind.i64.wrap (n : Int) = n := wrap_in (by omega)
    have hbc : ((bb : Int) * (c : Int)) = ((bb * c : Nat) : Int) := by simp
    have hr : (execOp ρ ⟨dst, .makeSlice T x y, ty, pos, after, g⟩).run P w = .ok (.value (.slice (some ⟨w.heap.size, 0, none⟩) n c)) { w with heap := w.heap.push (.cells ((Array.range (c * e.sz)).map ((if c * e.sz = 0 then #[] else (e.f x0).toArray)[· % (if c * e.sz = 0 then #[] else (e.f x0).toArray : Array Value).size]!)) E) } := by
      have h1 : ¬ ((c : Int) < 0) := by omega
      have h2 : ¬ (((bb * c : Nat) : Int) > 2 ^ 48) := by
        have : (2 : Int) ^ 48 = 281474976710656 := rfl
        omega
      have h3 : ¬ ((n : Int) < 0) := by omega
      have h4 : ¬ ((n : Int) > (c : Int)) := by omega
      simp only [execOp, hρ _ _ hx, hρ _ _ hy, Instr.makeSlice, Sem.run_bind, run_und (T := T), Result.andThen_ok, asInt, asIntOf, Sem.run_pure, hi, hj, typeInfo, run_program, hi1, hi3, hwc, hwn, hbc]
      simp only [h1, h2, h3, h4, decide_false, Bool.or_self, Bool.false_eq_true, ↓reduceIte, Sem.run_bind, run_askRoom, Result.andThen_ok, run_sizeOf (T := E) (s := e.sz), Int.toNat_natCast]
      by_cases h0 : c * e.sz = 0
      · simp only [h0, ↓reduceIte, Sem.run_bind, Sem.run_pure, Result.andThen_ok]
        rfl
      · simp only [h0, ↓reduceIte, Sem.run_bind, Sem.run_pure, Result.andThen_ok, run_zero (T := E), hz]
        rfl
    rw [hr]
    refine ⟨_, hw.newRow e (List.replicate n x0) _ E n c (by simp) hnc (by simp) ?_, ⟨some ⟨w.heap.size, 0, none⟩, n, c⟩, rfl, rfl, rfl, rfl⟩
    intro j v hv
    have hj := (List.getElem?_eq_some_iff.1 hv).1
    rw [e.all_length, List.length_replicate] at hj
    have hlt : j < c * e.sz := Nat.lt_of_lt_of_le hj (Nat.mul_le_mul_right _ hnc)
    have h0 : c * e.sz ≠ 0 := by omega
    rw [all_replicate e n x0 j hj] at hv
    have hm : j % e.sz < (e.f x0).length := by rw [e.len]; exact Nat.mod_lt _ e.pos
    simp only [h0, ↓reduceIte, Array.getElem?_map, List.size_toArray, e.len]
    rw [Array.getElem?_range, if_pos hlt]
    simp only [Option.map_some]
    rw [List.getElem?_eq_getElem hm] at hv
    rw [← hv]
    congr 1
    simp [hm]

/-! ### Strings -/
theorem strB_aux (xs : List Nat) : xs.length = (xs.map UInt8.ofNat).toArray.size := by simp
/-- The string of these bytes. -/
def strB (xs : List Nat) : ByteArray := ⟨(xs.map UInt8.ofNat).toArray⟩
theorem byts_strB {xs : List Nat} (h : ∀ x ∈ xs, x < 256) : byts (strB xs) = xs := by
  simp only [byts, strB, List.map_map]
  refine (List.map_congr_left fun x hx => ?_).trans (List.map_id xs)
  have := h x hx
  simp [Nat.mod_eq_of_lt this]
theorem strB_byts (s : ByteArray) : strB (byts s) = s := by
  simp only [byts, strB, List.map_map]
  cases s with
  | mk d =>
    congr 1
    apply Array.ext'
    simp only []
    refine (List.map_congr_left fun x _ => ?_).trans (List.map_id d.toList)
    simp
theorem strB_inj {xs ys : List Nat} (hx : ∀ x ∈ xs, x < 256) (hy : ∀ x ∈ ys, x < 256) : strB xs = strB ys ↔ xs = ys :=
  ⟨fun h => by rw [← byts_strB hx, ← byts_strB hy, h], fun h => by rw [h]⟩
theorem byts_inj {s u : ByteArray} : byts s = byts u ↔ s = u := ⟨fun h => by rw [← strB_byts s, ← strB_byts u, h], fun h => by rw [h]⟩
theorem byts_lt (s : ByteArray) : ∀ x ∈ byts s, x < 256 := by
  intro x hx
  obtain ⟨y, _, rfl⟩ := List.mem_map.1 hx
  exact y.toNat_lt
theorem byts_append (s u : ByteArray) : byts (s ++ u) = byts s ++ byts u := by simp [byts, ByteArray.data_append]
theorem strB_size (xs : List Nat) : (strB xs).size = xs.length := by simp [strB, ByteArray.size]

theorem foldl_bytes (xs : List Nat) : ∀ acc : ByteArray, (xs.map (fun (n : Nat) => (n : Int))).foldl (fun r n => r.push (UInt8.ofNat n.toNat)) acc = ⟨acc.data ++ (xs.map UInt8.ofNat).toArray⟩ := by
  induction xs with
  | nil => intro acc; simp
  | cons x xs ih =>
    intro acc
    simp only [List.map_cons, List.foldl_cons, Int.toNat_natCast]
    rw [ih]
    congr 1
    apply Array.ext'
    simp [ByteArray.push]
theorem eB_all (xs : List Nat) : eB.all xs = (xs.map (fun (n : Nat) => (n : Int))).map (Value.int .u8) := by
  induction xs with
  | nil => rfl
  | cons x xs ih => rw [Enc.all_cons, ih]; rfl

/-- string(b). -/
theorem ev_bytesToString {S D E : TypeId} {x : Operand} {s : SV} {xs : List Nat} [hS : Und P S (.slice E)] [hD : Und P D .string] [hE : Und P E (.int .u8)] (hx : evo t x = some s.val) [hs : Sl H s eB xs] :
    Ev G P ⟨dst, .convert S D x, ty, pos, after, g⟩ t H (.string (strB xs)) :=
  fun ρ hρ w hw => by
    obtain ⟨h1, _, h3⟩ := hs.get hw
    rcases h3 with ⟨rfl, _⟩ | ⟨b, off, C0, E0, fz, h4, hb, _, h6⟩
    · simp only [List.length_nil] at h1
      simp only [execOp, convert, hρ _ _ hx, Sem.run_bind, run_und (T := S), run_und (T := D), run_und (T := E), Result.andThen_ok, SV.val, h1]
      cases h4 : s.a with
      | none =>
        simp only [Conv.bytesToString, Sem.run_bind, Sem.run_pure]
        rfl
      | some a =>
        have h8 := run_bytesToString (P := P) w a 0 s.c [] (by simp [loadCells, loadCellsFrom])
        simp only [h8, Result.andThen_ok, Sem.run_pure]
        rfl
    · have h7 := run_loadCells_blk (P := P) (o := off) hb (eB.all xs) h6
      rw [eB.all_length, show eB.sz = 1 from rfl, Nat.mul_one, ← h1] at h7
      rw [eB_all] at h7
      have h8 := run_bytesToString (P := P) w ⟨b, off, none⟩ s.n s.c _ h7
      rw [foldl_bytes] at h8
      simp only [execOp, convert, hρ _ _ hx, Sem.run_bind, run_und (T := S), run_und (T := D), run_und (T := E), Result.andThen_ok, SV.val, h4, h8, Sem.run_pure]
      congr 4
      apply Array.ext'
      simp
end
end Go.Sx
