import Derived.Test.YtniphaoadhojlaaGreatDoorSxJ
set_option linter.all false
namespace Go.Sx
open Go

/-! ## Values as elements, found by instances -/
/-- v is the element x. -/
class EncV {α : Type} (e : Enc α) (v : Value) (x : outParam α) : Prop where
  out : e.v x = v
instance {n : Nat} : EncV eB (.int .u8 ((n : Nat) : Int)) n := ⟨rfl⟩
instance (priority := low) {n : Nat} : EncV eB (.int .u8 (@OfNat.ofNat Int n instOfNat)) n := ⟨rfl⟩
instance {i : Int} : EncV eI (.int .i64 i) i := ⟨rfl⟩
instance {s : ByteArray} : EncV eS (.string s) s := ⟨rfl⟩
instance {a : Option Addr} {n c : Nat} : EncV eSV (.slice a n c) ⟨a, n, c⟩ := ⟨rfl⟩
instance {s : SV} : EncV eSV s.val s := ⟨rfl⟩
/-- The element x is the value v. -/
class EncW {α : Type} (e : Enc α) (x : α) (v : outParam Value) : Prop where
  out : e.v x = v
instance {n : Nat} : EncW eB n (.int .u8 (n : Int)) := ⟨rfl⟩
instance {i : Int} : EncW eI i (.int .i64 i) := ⟨rfl⟩
instance {s : ByteArray} : EncW eS s (.string s) := ⟨rfl⟩
instance {s : SV} : EncW eSV s s.val := ⟨rfl⟩
class EncPs {α : Type} (e : Enc α) (k : Nat) (ps : List (Nat × Value)) (xs : outParam (List α)) : Prop where
  out : ps = e.parts k xs
instance {α : Type} {e : Enc α} {k : Nat} : EncPs e k [] [] := ⟨rfl⟩
instance {α : Type} {e : Enc α} {k : Nat} {v : Value} {x : α} {ps : List (Nat × Value)} {xs : List α} [h : EncV e v x] [h2 : EncPs e (k + 1) ps xs] : EncPs e k ((k, v) :: ps) (x :: xs) := ⟨by rw [h2.out, ← h.out]; rfl⟩

section
variable {G : Base} {P : Program} {N : Nat} {Q : Post} {t : Tm} {H : Heap} {ops : Array Oper} {dst : Option Tmp} {ty : TypeId} {pos : String} {after : Array Edge} {g : Option (Nat × Bool)}

/-- []T{x, ..}. -/
theorem st_build0 {T E : TypeId} {sz bb : Nat} {z : Value} {α : Type} (e : Enc α) [hT : Und P T (.slice E)] [hE : Inf P E sz bb z]   (hsz : sz = e.sz) :
    St G P ⟨dst, .buildSlice T 0 #[], ty, pos, after, g⟩ t H (fun u H' => ∃ s : SV, u = s.val ∧ H' = Row s e [] :: H) := by
  subst hsz
  exact st_buildSlice e [] (by simp only [evps, Enc.parts]) rfl (by have := e.small; omega)
theorem st_build1 {T E : TypeId} {sz bb : Nat} {z : Value} {v1 : Value} {x1 : Operand} {α : Type} (e : Enc α) {y1 : α} [hT : Und P T (.slice E)] [hE : Inf P E sz bb z] (hx1 : evo t x1 = some v1) [hv1 : EncV e v1 y1] (hsz : sz = e.sz) :
    St G P ⟨dst, .buildSlice T 1 #[(0, x1)], ty, pos, after, g⟩ t H (fun u H' => ∃ s : SV, u = s.val ∧ H' = Row s e [y1] :: H) := by
  subst hsz
  exact st_buildSlice e [y1] (by simp only [evps, Enc.parts, hx1, hv1.out]) rfl (by have := e.small; omega)
theorem st_build2 {T E : TypeId} {sz bb : Nat} {z : Value} {v1 v2 : Value} {x1 x2 : Operand} {α : Type} (e : Enc α) {y1 y2 : α} [hT : Und P T (.slice E)] [hE : Inf P E sz bb z] (hx1 : evo t x1 = some v1) (hx2 : evo t x2 = some v2) [hv1 : EncV e v1 y1] [hv2 : EncV e v2 y2] (hsz : sz = e.sz) :
    St G P ⟨dst, .buildSlice T 2 #[(0, x1), (1, x2)], ty, pos, after, g⟩ t H (fun u H' => ∃ s : SV, u = s.val ∧ H' = Row s e [y1, y2] :: H) := by
  subst hsz
  exact st_buildSlice e [y1, y2] (by simp only [evps, Enc.parts, hx1, hx2, hv1.out, hv2.out]) rfl (by have := e.small; omega)
theorem st_build4 {T E : TypeId} {sz bb : Nat} {z : Value} {v1 v2 v3 v4 : Value} {x1 x2 x3 x4 : Operand} {α : Type} (e : Enc α) {y1 y2 y3 y4 : α} [hT : Und P T (.slice E)] [hE : Inf P E sz bb z] (hx1 : evo t x1 = some v1) (hx2 : evo t x2 = some v2) (hx3 : evo t x3 = some v3) (hx4 : evo t x4 = some v4) [hv1 : EncV e v1 y1] [hv2 : EncV e v2 y2] [hv3 : EncV e v3 y3] [hv4 : EncV e v4 y4] (hsz : sz = e.sz) :
    St G P ⟨dst, .buildSlice T 4 #[(0, x1), (1, x2), (2, x3), (3, x4)], ty, pos, after, g⟩ t H (fun u H' => ∃ s : SV, u = s.val ∧ H' = Row s e [y1, y2, y3, y4] :: H) := by
  subst hsz
  exact st_buildSlice e [y1, y2, y3, y4] (by simp only [evps, Enc.parts, hx1, hx2, hx3, hx4, hv1.out, hv2.out, hv3.out, hv4.out]) rfl (by have := e.small; omega)
theorem st_build5 {T E : TypeId} {sz bb : Nat} {z : Value} {v1 v2 v3 v4 v5 : Value} {x1 x2 x3 x4 x5 : Operand} {α : Type} (e : Enc α) {y1 y2 y3 y4 y5 : α} [hT : Und P T (.slice E)] [hE : Inf P E sz bb z] (hx1 : evo t x1 = some v1) (hx2 : evo t x2 = some v2) (hx3 : evo t x3 = some v3) (hx4 : evo t x4 = some v4) (hx5 : evo t x5 = some v5) [hv1 : EncV e v1 y1] [hv2 : EncV e v2 y2] [hv3 : EncV e v3 y3] [hv4 : EncV e v4 y4] [hv5 : EncV e v5 y5] (hsz : sz = e.sz) :
    St G P ⟨dst, .buildSlice T 5 #[(0, x1), (1, x2), (2, x3), (3, x4), (4, x5)], ty, pos, after, g⟩ t H (fun u H' => ∃ s : SV, u = s.val ∧ H' = Row s e [y1, y2, y3, y4, y5] :: H) := by
  subst hsz
  exact st_buildSlice e [y1, y2, y3, y4, y5] (by simp only [evps, Enc.parts, hx1, hx2, hx3, hx4, hx5, hv1.out, hv2.out, hv3.out, hv4.out, hv5.out]) rfl (by have := e.small; omega)

/-- The load of an element. -/
theorem ev_load_el {T : TypeId} {x : Operand} {s : SV} {i sz : Nat} {v : Value} {α : Type} {e : Enc α} {xs : List α} (hx : evo t x = some (.pointer (s.elt sz i 0))) [hT : One P T] [hs : Sl H s e xs] (hsz : e.sz = sz) (ha : e.agg = false) (y : α) (hy : xs[i]? = some y) [hv : EncW e y v] :
    Ev G P ⟨dst, .load T x, ty, pos, after, g⟩ t H v := by subst hsz; exact hv.out ▸ ev_load_whole hx ha y hy
theorem ev_loadS_el {T : TypeId} {x : Operand} {s : SV} {i sz : Nat} {v : Value} {α : Type} {e : Enc α} {xs : List α} (hx : evo t x = some (.pointer (s.elt sz i 0))) [hT : Agg P T sz] [hs : Sl H s e xs] (hsz : e.sz = sz) (ha : e.agg = true) (y : α) (hy : xs[i]? = some y) [hv : EncW e y v] :
    Ev G P ⟨dst, .load T x, ty, pos, after, g⟩ t H v := by subst hsz; exact hv.out ▸ ev_loadS_whole hx ha y hy
theorem ev_load_fl {T : TypeId} {x : Operand} {s : SV} {i o sz : Nat} {v : Value} {α : Type} {e : Enc α} {xs : List α} (hx : evo t x = some (.pointer (s.elt sz i o))) [hT : One P T] [hs : Sl H s e xs] (hsz : e.sz = sz) (y : α) (hy : xs[i]? = some y) (hc : (e.f y)[o]? = some v) :
    Ev G P ⟨dst, .load T x, ty, pos, after, g⟩ t H v := by subst hsz; exact ev_load_elt hx y hy hc
theorem ev_loadS_fl {T : TypeId} {x : Operand} {s : SV} {i o n sz : Nat} {l cs : List Value} {α : Type} {e : Enc α} {xs : List α} (hx : evo t x = some (.pointer (s.elt sz i o))) [hT : Agg P T n] [hs : Sl H s e xs] (hsz : e.sz = sz) (y : α) (hy : xs[i]? = some y) (hl : e.f y = l) [hc : Cut l o n cs] :
    Ev G P ⟨dst, .load T x, ty, pos, after, g⟩ t H (.agg cs.toArray) := by subst hsz; subst hl; exact ev_loadS_elt hx y hy

theorem ev_len1 {x : Operand} {T E : TypeId} {s : SV} {α : Type} {e : Enc α} {xs : List α} (hx : evo t x = some s.val) [hT : Und P T (.slice E)] [hs : Sl H s e xs] :
    Ev G P ⟨dst, .call ⟨.builtin .len, #[x], #[T]⟩, ty, pos, after, g⟩ t H (.int .i64 ((xs.length : Nat) : Int)) := ev_len (T := T) hx rfl
theorem ev_len_str1 {x : Operand} {T : TypeId} {s : ByteArray} (hx : evo t x = some (.string s)) [hT : Und P T .string] :
    Ev G P ⟨dst, .call ⟨.builtin .len, #[x], #[T]⟩, ty, pos, after, g⟩ t H (.int .i64 ((s.size : Nat) : Int)) := ev_len_str (T := T) hx rfl

theorem ev_slice1 {T E : TypeId} {x : Operand} {lo hi : Option Operand} {s : SV} {α : Type} {e : Enc α} {xs : List α} {sz bb : Nat} {z : Value} (hx : evo t x = some s.val) [hT : Und P T (.slice E)] [hE : Inf P E sz bb z] [hs : Sl H s e xs] (hsz : e.sz = sz)
    (l h : Nat) (hlo : match lo with | none => l = 0 | some o => ∃ k j, evo t o = some (.int k j) ∧ j = (l : Int)) (hhi : match hi with | none => h = xs.length | some o => ∃ k j, evo t o = some (.int k j) ∧ j = (h : Int)) (h1 : l ≤ h) (h2 : h ≤ xs.length) :
    Ev G P ⟨dst, .slice T x lo hi none, ty, pos, after, g⟩ t H (s.cut sz l h).val := by subst hsz; exact ev_slice hx l h hlo hhi h1 h2

/-- Sums and differences that may go beyond the range on the way. -/
theorem ev_subE {T U : TypeId} {x y : Operand} {a b : Int} (hx : evo t x = some (.int .i64 a)) (hy : evo t y = some (.int .i64 b)) (c : Int) (h : IntKind.i64.wrap (a - b) = c) :
    Ev G P ⟨dst, .binOp .sub T x y U, ty, pos, after, g⟩ t H (.int .i64 c) :=
  fun ρ hρ w _ => by simp [execOp, hρ _ _ hx, hρ _ _ hy, eqGuard, binOp, Op.intArith, h]
theorem ev_addE {T U : TypeId} {x y : Operand} {a b : Int} (hx : evo t x = some (.int .i64 a)) (hy : evo t y = some (.int .i64 b)) (c : Int) (h : IntKind.i64.wrap (a + b) = c) :
    Ev G P ⟨dst, .binOp .add T x y U, ty, pos, after, g⟩ t H (.int .i64 c) :=
  fun ρ hρ w _ => by simp [execOp, hρ _ _ hx, hρ _ _ hy, eqGuard, binOp, Op.intArith, h]

theorem w_still {id : Nat} {l : List Oper} (hm : P.follows .mixedOrders = true) (h : An G P N l.toArray still (at_ H) Q l.length (Array.replicate l.length false) t H) : W G P N (.region id l.toArray true) Q t H := w_draw hm still (at_ H) h

theorem ev_extract1 {x : Operand} {i : Nat} {vs : Array Value} {v : Value} (hx : evo t x = some (.tuple vs)) (hv : vs.toList[i]? = some v) :
    Ev G P ⟨dst, .extract x i, ty, pos, after, g⟩ t H v := ev_extract hx (by rw [← Array.getElem?_toList]; exact hv)

/-- copy(d[a:b], s2). -/
theorem st_copy0 {T T2 E : TypeId} {x y : Operand} {s s2 : SV} {bb a b : Nat} {z : Value} {α : Type} {e : Enc α} {xs ys : List α} {C : Hp → Heap} (hx : evo t x = some (s.cut e.sz a b).val) (hy : evo t y = some s2.val) [hT : Und P T (.slice E)] [hE : Inf P E e.sz bb z] [hf : FocR H s e xs C] [hs : Sl H s2 e ys] (h1 : a ≤ b) (h2 : b ≤ xs.length) (m : Nat) (hm : m = min ys.length (b - a)) :
    St G P ⟨dst, .call ⟨.builtin .copy, #[x, y], #[T, T2]⟩, ty, pos, after, g⟩ t H (fun u H' => u = .int .i64 ((m : Nat) : Int) ∧ H' = C (Row s e (xs.take a ++ ys.take m ++ xs.drop (a + m)))) :=
  fun ρ hρ w hw => by
    obtain ⟨q1, q2, q3⟩ := hs.get hw
    have hmy : m ≤ ys.length := by omega
    have hlen : (Builtin.lenOf s2.val).run P w = .ok ys.length w := by simp [Builtin.lenOf, SV.val, q1]
    have hfirst : (Builtin.firstCells e.sz m s2.val).run P w = .ok (e.all (ys.take m)).toArray w := by
      rcases q3 with ⟨rfl, _⟩ | ⟨bk, off, C0, E0, fz, h4, hb, _, h6⟩
      · simp at hmy; subst hmy
        rw [firstCells_zero]; rfl
      · have := run_loadCells_blk (P := P) (o := off) hb (e.all (ys.take m)) (fun j v hv => h6 j v (by
          rw [e.all_take] at hv
          have hj := (List.getElem?_eq_some_iff.1 hv).1
          rw [List.length_take] at hj
          rwa [List.getElem?_take_of_lt (by omega)] at hv))
        rw [e.all_length, List.length_take, Nat.min_eq_left hmy] at this
        simp only [Builtin.firstCells, SV.val, h4, this]
    obtain ⟨L1, M, L2, hl, hM, hB⟩ := hf.split hw
    have hsz : (e.all (ys.take m)).length = m * e.sz := by rw [e.all_length, List.length_take, Nat.min_eq_left hmy]
    have hmn : Nat.min ys.length (b - a) = m := hm.symm
    by_cases hm0 : m = 0
    · subst hm0
      have he : xs.take a ++ ys.take 0 ++ xs.drop (a + 0) = xs := by simp
      rw [he]
      have hr : (execOp ρ ⟨dst, .call ⟨.builtin .copy, #[x, y], #[T, T2]⟩, ty, pos, after, g⟩).run P w = .ok (.value (.int .i64 ((0 : Nat) : Int))) w := by
        simp only [execOp, resolve, invoke, builtin, List.map_toArray, List.map_cons, List.map_nil, hρ _ _ hx, hρ _ _ hy, Sem.run_bind, Sem.run_pure, Result.andThen_ok, Builtin.copy_, List.getElem?_toArray, List.getElem?_cons_zero, List.getElem?_cons_succ, run_und (T := T), SV.val, SV.cut]
        have hlen' := hlen
        have hfirst' := hfirst
        simp only [SV.val] at hlen' hfirst'
        simp only [hlen', Result.andThen_ok, hmn, run_sizeOf (T := E) (s := e.sz), hfirst']
        cases h : (if s.c = a then s.a else Option.map (fun x => x.add (a * e.sz)) s.a) <;> simp [Enc.all_nil, storeCells, goInt]
      rw [hr]
      exact ⟨C (Row s e xs), ⟨hw.1, _, hB _ M hM, hl⟩, rfl, rfl⟩
    · rcases hM with ⟨rfl, rfl, rfl⟩ | ⟨bk, C0, E0, fz, g1, g2, g3, rfl, g5, g6, g7⟩
      · simp at h2; omega
      · have hbw : w.heap[bk]? = some (.cells C0 E0 fz) := hl.at_ (bk, .cells C0 E0 fz) (by simp)
        have hca : ¬ (s.c = a) := by omega
        have hfit : a * e.sz + (e.all (ys.take m)).length ≤ C0.size := by
          rw [hsz, g5, ← Nat.add_mul]; exact Nat.mul_le_mul_right _ (by omega)
        have hst := run_storeCells_blk (P := P) (o := a * e.sz) (e.all (ys.take m)) 0 C0 w hbw (fun j _ h => g6.free j (by omega)) (by omega) (e.all_one _)
        have hr : (execOp ρ ⟨dst, .call ⟨.builtin .copy, #[x, y], #[T, T2]⟩, ty, pos, after, g⟩).run P w = .ok (.value (.int .i64 ((m : Nat) : Int))) (setBlk w bk (.cells (putAt C0 (a * e.sz) (e.all (ys.take m))) E0 fz)) := by
          simp only [execOp, resolve, invoke, builtin, List.map_toArray, List.map_cons, List.map_nil, hρ _ _ hx, hρ _ _ hy, Sem.run_bind, Sem.run_pure, Result.andThen_ok, Builtin.copy_, List.getElem?_toArray, List.getElem?_cons_zero, List.getElem?_cons_succ, run_und (T := T), SV.val, SV.cut]
          have hlen' := hlen
          have hfirst' := hfirst
          simp only [SV.val] at hlen' hfirst'
          simp only [hlen', Result.andThen_ok, hmn, run_sizeOf (T := E) (s := e.sz), hfirst', hca, ↓reduceIte, g1, Option.map_some, add_none, Nat.zero_add, Sem.run_bind]
          simp only [Nat.add_zero] at hst
          rw [hst]
          rfl
        rw [hr]
        refine ⟨C (Row s e (xs.take a ++ ys.take m ++ xs.drop (a + m))), ⟨⟨hw.1.os, hw.1.tape, hw.1.output⟩, _, hB _ [(bk, .cells (putAt C0 (a * e.sz) (e.all (ys.take m))) E0 fz)] (.inr ⟨bk, _, E0, fz, g1, ?_, g3, rfl, by rw [putAt_size, g5], by rw [putAt_size]; exact g6, ?_⟩), ?_⟩, rfl, rfl⟩
        · simp; omega
        · intro j u hu
          rw [putAt_get _ _ _ _ hfit, hsz]
          rw [e.all_append, e.all_append] at hu
          have hla : (e.all (xs.take a)).length = a * e.sz := by rw [e.all_length, List.length_take, Nat.min_eq_left (by omega)]
          by_cases hj : j < a * e.sz
          · rw [if_neg (by omega)]
            rw [List.append_assoc, List.getElem?_append_left (by omega), e.all_take, List.getElem?_take_of_lt hj] at hu
            exact g7 j u hu
          · by_cases hj2 : j < a * e.sz + m * e.sz
            · rw [if_pos (by omega)]
              rw [List.append_assoc, List.getElem?_append_right (by omega), hla, List.getElem?_append_left (by omega)] at hu
              exact hu
            · rw [if_neg (by omega)]
              rw [List.getElem?_append_right (by rw [List.length_append, hla, hsz]; omega), List.length_append, hla, hsz, e.all_drop, List.getElem?_drop, Nat.add_mul] at hu
              exact g7 j u (by rw [← hu]; congr 1; omega)
        · have := Lies.change (w' := setBlk w bk (.cells (putAt C0 (a * e.sz) (e.all (ys.take m))) E0 fz)) (L1 := L1) (L2 := L2) (b := bk) (o := .cells C0 E0 fz) (o' := .cells (putAt C0 (a * e.sz) (e.all (ys.take m))) E0 fz) (by simpa using hl) (setBlk_get hbw) (fun i hi _ => setBlk_other hi)
          simpa using this

theorem st_copy {T T2 E : TypeId} {x y : Operand} {s s2 : SV} {sz bb a b : Nat} {z : Value} {α : Type} {e : Enc α} {xs ys : List α} {C : Hp → Heap} (hx : evo t x = some (s.cut sz a b).val) (hy : evo t y = some s2.val) [hT : Und P T (.slice E)] [hE : Inf P E sz bb z] [hf : FocR H s e xs C] [hs : Sl H s2 e ys] (hsz : e.sz = sz) (h1 : a ≤ b) (h2 : b ≤ xs.length) (m : Nat) (hm : m = min ys.length (b - a)) :
    St G P ⟨dst, .call ⟨.builtin .copy, #[x, y], #[T, T2]⟩, ty, pos, after, g⟩ t H (fun u H' => u = .int .i64 ((m : Nat) : Int) ∧ H' = C (Row s e (xs.take a ++ ys.take m ++ xs.drop (a + m)))) := by subst hsz; exact st_copy0 hx hy h1 h2 m hm

/-- []byte(b), of a row of the call's own. -/
theorem st_bytes {T E : TypeId} {x : Operand} {s : SV} {xs : List Nat} {C : Hp → Heap} [hT : Und P T (.slice E)] [hE : Und P E (.int .u8)] (hx : evo t x = some s.val) [hf : FocR H s eB xs C] (hne : xs ≠ []) :
    St G P ⟨dst, .convert T T x, ty, pos, after, g⟩ t H (fun u H' => u = s.val ∧ H' = C (Row s eB xs)) :=
  fun ρ hρ w hw => by
    obtain ⟨L1, M, L2, hl, hM, hB⟩ := hf.split hw
    rcases hM with ⟨rfl, rfl, rfl⟩ | ⟨b, C0, E0, fz, g1, g2, g3, rfl, g5, g6, g7⟩
    · exact absurd rfl hne
    · have hbw : w.heap[b]? = some (.cells C0 E0 fz) := hl.at_ (b, .cells C0 E0 fz) (by simp)
      obtain ⟨fz', hfz, hok⟩ : ∃ fz', (if fz.1 == fz.2 then (C0.size, C0.size + 1) else (min fz.1 C0.size, max fz.2 (C0.size + 1))) = fz' ∧ Okf C0.size fz' := by
        refine ⟨_, rfl, ?_⟩
        by_cases h : fz.1 = fz.2
        · rw [if_pos (by simp [h])]; exact .inr (Nat.le_refl _)
        · rw [if_neg (by simp [h])]
          rcases g6 with h6 | h6
          · exact absurd h6 h
          · exact .inr (by simp only []; omega)
      have hfr : w.freeze ⟨b, C0.size, none⟩ 1 = setBlk w b (.cells C0 E0 fz') := by
        unfold World.freeze setBlk
        rw [if_neg (by decide)]
        congr 1
        apply Array.ext_getElem?
        intro i
        simp only [Array.getElem?_modify, Array.getElem?_setIfInBounds]
        have hlt := (Array.getElem?_eq_some_iff.1 hbw).1
        by_cases hi : b = i
        · subst hi
          rw [if_pos rfl, if_pos rfl, if_pos hlt, hbw, Option.map_some]
          rw [← hfz]
        · rw [if_neg hi, if_neg hi]
      have hsh : w.shape? b = some (E0, C0.size) := by unfold World.shape?; rw [hbw]
      have hr : (execOp ρ ⟨dst, .convert T T x, ty, pos, after, g⟩).run P w = .ok (.value s.val) (setBlk w b (.cells C0 E0 fz')) := by
        simp only [execOp, convert, hρ _ _ hx, Sem.run_bind, run_und (T := T), run_und (T := E), Result.andThen_ok, SV.val, g1, BEq.rfl, markStringish, run_shape, hsh, run_freeze, hfr, Sem.run_pure]
      rw [hr]
      refine ⟨C (Row s eB xs), ⟨⟨hw.1.os, hw.1.tape, hw.1.output⟩, _, hB _ [(b, .cells C0 E0 fz')] (.inr ⟨b, C0, E0, fz', g1, g2, g3, rfl, g5, hok, g7⟩), ?_⟩, rfl, rfl⟩
      have := Lies.change (w' := setBlk w b (.cells C0 E0 fz')) (L1 := L1) (L2 := L2) (b := b) (o := .cells C0 E0 fz) (o' := .cells C0 E0 fz') (by simpa using hl) (setBlk_get hbw) (fun i hi _ => setBlk_other hi)
      simpa using this

/-! ## Contracts: parts of the heap -/
/-- Behind the call less is kept. -/
theorem SC.out {f : FuncId} {args : List Value} {K : Value → Heap → Prop} (h : SC G P f args H (fun v H' => ∃ H'', HSub H' H'' ∧ K v H'')) : SC G P f args H K :=
  ⟨h.enter, fun w hw => (h.call w hw).mono fun e w' he => by
    cases e with
    | returned v => obtain ⟨H', h1, H'', h2, h3⟩ := he; exact ⟨H'', h2.sat h1, h3⟩
    | _ => exact he.elim⟩

/-- An assertion of a keyed kind, and the rest. -/
class Rem (H : Heap) {ι α : Type} (K : ι → α → Hp) (i : ι) (a : outParam α) (R : outParam Heap) : Prop where
  out : ∀ L, Sep H L → ∃ L', L'.Perm L ∧ Sep (K i a :: R) L'
instance Rem.head {H : Heap} {ι α : Type} {K : ι → α → Hp} {i : ι} {a : α} : Rem (K i a :: H) K i a H := ⟨fun L h => ⟨L, .refl L, h⟩⟩
instance Rem.tail {A : Hp} {H R : Heap} {ι α : Type} {K : ι → α → Hp} {i : ι} {a : α} [h : Rem H K i a R] : Rem (A :: H) K i a (A :: R) :=
  ⟨fun L hL => by
    obtain ⟨L1, L2, rfl, h1, h2⟩ := hL
    obtain ⟨L', hp, M1, M2, rfl, h3, h4⟩ := h.out L2 h2
    refine ⟨M1 ++ (L1 ++ M2), ?_, M1, L1 ++ M2, rfl, h3, L1, M2, rfl, h1, h4⟩
    rw [← List.append_assoc]
    refine ((List.perm_append_comm.append_right M2).trans ?_)
    rw [List.append_assoc]
    exact hp.append_left L1⟩
theorem Rem.sat {R : Heap} {ι α : Type} {K : ι → α → Hp} {i : ι} {a : α} (h : Rem H K i a R) {w : World} (hw : Sat G w H) : Sat G w (K i a :: R) :=
  hw.imp fun L hL => let ⟨L', h1, h2⟩ := h.out L hL; ⟨L', h2, .inr h1⟩
theorem SC.rem {f : FuncId} {args : List Value} {K : Value → Heap → Prop} {R : Heap} {ι α : Type} {K' : ι → α → Hp} {i : ι} {a : α} [h : Rem H K' i a R] (hc : SC G P f args (K' i a :: R) K) : SC G P f args H K :=
  hc.heap fun _ hw => h.sat hw

/-- Several assertions as one. -/
def Star (F : Heap) : Hp := fun L => Sep F L
theorem SC.ex {f : FuncId} {args : List Value} {K : Value → Heap → Prop} {α : Type} {A : α → Hp} (h : ∀ x, SC G P f args (A x :: H) K) : (∃ _ : α, True) → SC G P f args ((fun L => ∃ x, A x L) :: H) K := fun hx =>
  ⟨(h hx.choose).enter, fun w hw => by
    obtain ⟨hs, L, ⟨L1, L2, rfl, ⟨x, h1⟩, h2⟩, hl⟩ := hw
    exact (h x).call w ⟨hs, _, ⟨L1, L2, rfl, h1, h2⟩, hl⟩⟩
theorem SC.star {f : FuncId} {args : List Value} {K : Value → Heap → Prop} {F : Heap} (h : SC G P f args (F ++ H) K) : SC G P f args (Star F :: H) K :=
  h.heap fun w hw => by
    obtain ⟨hs, L, ⟨L1, L2, rfl, h1, h2⟩, hl⟩ := hw
    refine ⟨hs, _, ?_, hl⟩
    clear hl hs h
    revert h1
    generalize hF : F = F'
    clear hF
    induction F' generalizing L1 with
    | nil => intro h1; obtain rfl : L1 = [] := h1; exact h2
    | cons A F ih =>
      intro h1
      obtain ⟨M1, M2, rfl, h3, h4⟩ := h1
      exact ⟨M1, M2 ++ L2, by simp, h3, ih M2 h4⟩
theorem sep_append {F : Heap} : ∀ {L : Frag}, Sep (F ++ H) L → ∃ L1 L2, L = L1 ++ L2 ∧ Sep F L1 ∧ Sep H L2 := by
  induction F with
  | nil => intro L hL; exact ⟨[], L, rfl, rfl, hL⟩
  | cons A F ih =>
    intro L hL
    obtain ⟨M1, M2, rfl, h1, h2⟩ := hL
    obtain ⟨N1, N2, rfl, h3, h4⟩ := ih h2
    exact ⟨M1 ++ N1, N2, by simp, ⟨M1, N1, rfl, h1, h3⟩, h4⟩
theorem HSub.star {F : Heap} {H' : Heap} (h : HSub H H') : HSub (F ++ H) (Star F :: H') := fun L hL => by
  obtain ⟨L1, L2, rfl, h1, h2⟩ := sep_append hL
  obtain ⟨L', M, h3, h4⟩ := h L2 h2
  exact ⟨L1 ++ L', M, ⟨L1, L', rfl, h1, h3⟩, by rw [List.append_assoc]; exact h4.append_left L1⟩

/-- A row of the call's own, and the rest. -/
class RemR (H : Heap) (s : SV) {α : outParam Type} (e : outParam (Enc α)) (xs : outParam (List α)) (R : outParam Heap) : Prop where
  out : ∀ L, Sep H L → ∃ L', L'.Perm L ∧ Sep (Row s e xs :: R) L'
instance RemR.head {H : Heap} {s : SV} {α : Type} {e : Enc α} {xs : List α} : RemR (Row s e xs :: H) s e xs H := ⟨fun L h => ⟨L, .refl L, h⟩⟩
instance RemR.tail {A : Hp} {H R : Heap} {s : SV} {α : Type} {e : Enc α} {xs : List α} [h : RemR H s e xs R] : RemR (A :: H) s e xs (A :: R) :=
  ⟨fun L hL => by
    obtain ⟨L1, L2, rfl, h1, h2⟩ := hL
    obtain ⟨L', hp, M1, M2, rfl, h3, h4⟩ := h.out L2 h2
    refine ⟨M1 ++ (L1 ++ M2), ?_, M1, L1 ++ M2, rfl, h3, L1, M2, rfl, h1, h4⟩
    rw [← List.append_assoc]
    refine ((List.perm_append_comm.append_right M2).trans ?_)
    rw [List.append_assoc]
    exact hp.append_left L1⟩
theorem HSub.rem {R H' : Heap} {ι α : Type} {K : ι → α → Hp} {i : ι} {a : α} (hr : Rem H K i a R) (h : HSub (K i a :: R) H') : HSub H H' := fun L hL => by
  obtain ⟨L', h1, h2⟩ := hr.out L hL
  obtain ⟨L'', M, h3, h4⟩ := h L' h2
  exact ⟨L'', M, h3, h4.trans h1⟩
theorem HSub.remR {R H' : Heap} {s : SV} {α : Type} {e : Enc α} {xs : List α} (hr : RemR H s e xs R) (h : HSub (Row s e xs :: R) H') : HSub H H' := fun L hL => by
  obtain ⟨L', h1, h2⟩ := hr.out L hL
  obtain ⟨L'', M, h3, h4⟩ := h L' h2
  exact ⟨L'', M, h3, h4.trans h1⟩
theorem HSub.vr {R H' : Heap} {b : Nat} {l : List Value} [hr : Rem H Vr b l R] (h : HSub R H') : HSub H (Vr b l :: H') := HSub.rem hr h.keep
theorem HSub.row {R H' : Heap} {s : SV} {α : Type} {e : Enc α} {xs : List α} [hr : RemR H s e xs R] (h : HSub R H') : HSub H (Row s e xs :: H') := HSub.remR hr h.keep
theorem HSub.nilRow {H' : Heap} {α : Type} {e : Enc α} (h : HSub H H') : HSub H (Row SV.nil e [] :: H') := HSub.add (.inl ⟨rfl, rfl, rfl⟩) h

/-! ## Writers: a variable that holds a slice of its own -/
def Wr (b : Nat) (xs : List Nat) : Hp := fun L => ∃ s : SV, Sep [Vr b [s.val], Row s eB xs] L
theorem HSub.wr {R H' : Heap} {b : Nat} {xs : List Nat} [hr : Rem H Wr b xs R] (h : HSub R H') : HSub H (Wr b xs :: H') := HSub.rem hr h.keep
theorem HSub.wr' {R R' H' : Heap} {b : Nat} {s : SV} {xs : List Nat} [hr : Rem H Vr b [s.val] R] [hr2 : RemR R s eB xs R'] (h : HSub R' H') : HSub H (Wr b xs :: H') := by
  refine HSub.rem hr (HSub.trans (H' := Vr b [s.val] :: Row s eB xs :: R') ?_ ?_)
  · exact HSub.keep (HSub.remR hr2 HSub.refl)
  · intro L hL
    obtain ⟨L1, L2, rfl, h1, L3, L4, rfl, h3, h4⟩ := hL
    obtain ⟨L', M, h5, h6⟩ := h L4 h4
    exact ⟨(L1 ++ L3) ++ L', M, ⟨L1 ++ L3, L', rfl, ⟨s, L1, L3, rfl, h1, L3, [], by simp, h3, rfl⟩, h5⟩, by simp only [List.append_assoc]; exact (h6.append_left L3).append_left L1⟩
theorem HSub.wr0 {R H' : Heap} {b : Nat} [hr : Rem H Vr b [.slice none 0 0] R] (h : HSub R H') : HSub H (Wr b [] :: H') := by
  refine HSub.rem hr fun L hL => ?_
  obtain ⟨L1, L2, rfl, h1, h2⟩ := hL
  obtain ⟨L', M, h5, h6⟩ := h L2 h2
  exact ⟨L1 ++ L', M, ⟨L1, L', rfl, ⟨SV.nil, L1, [], by simp, h1, [], [], rfl, .inl ⟨rfl, rfl, rfl⟩, rfl⟩, h5⟩, by rw [List.append_assoc]; exact h6.append_left L1⟩
theorem sc_wr {f : FuncId} {args : List Value} {K : Value → Heap → Prop} {R : Heap} {b : Nat} {xs : List Nat} (hr : Rem H Wr b xs R) (h : ∀ s : SV, SC G P f args (Vr b [s.val] :: Row s eB xs :: R) K) : SC G P f args H K :=
  SC.heap (H' := Wr b xs :: R) ⟨(h SV.nil).enter, fun w hw => by
    obtain ⟨hs, L, ⟨L1, L2, rfl, ⟨s, M1, M2, rfl, h1, M3, M4, rfl, h2, h3⟩, h4⟩, hl⟩ := hw
    obtain rfl : M4 = [] := h3
    exact (h s).call w ⟨hs, _, ⟨M1, M3 ++ L2, by simp, h1, M3, L2, rfl, h2, h4⟩, hl⟩⟩ fun _ hw => hr.sat hw

def liveB (ops : Array Oper) (loud : Nat → Bool) (listed : Array Bool) (i : Nat) : Bool :=
  (List.range ops.size).all fun j => !(loud j && listed.getD j false) || match ops[j]? with
    | some oj => oj.after.all fun e => !(Region.binds .any e && e.on == i)
    | none => true
/-- An operation that is no more to come: a loud one that waited for it has come up. -/
theorem not_live {loud : Nat → Bool} {listed : Array Bool} {i : Nat} (h : liveB ops loud listed i = false) : ¬ Live ops loud i listed := by
  intro hl
  rw [← Bool.not_eq_true] at h
  refine h (List.all_eq_true.2 fun j _ => ?_)
  cases hlj : loud j with
  | false => rfl
  | true =>
    cases hli : listed.getD j false with
    | false => rfl
    | true =>
      cases hj : ops[j]? with
      | none => rfl
      | some oj =>
        simp only [Bool.and_self, Bool.not_true, Bool.false_or]
        refine Array.all_eq_true'.2 fun e he => ?_
        cases hb : Region.binds .any e with
        | false => rfl
        | true => have := hl j oj hj hlj hli e he hb; simp [this]
theorem sat_wr {R : Heap} {b : Nat} {xs : List Nat} (hr : Rem H Wr b xs R) {w : World} (hw : Sat G w H) : ∃ s : SV, Sat G w (Vr b [s.val] :: Row s eB xs :: R) := by
  obtain ⟨hs, L, ⟨L1, L2, rfl, ⟨s, M1, M2, rfl, h1, M3, M4, rfl, h2, h3⟩, h4⟩, hl⟩ := hr.sat hw
  obtain rfl : M4 = [] := h3
  exact ⟨s, hs, _, ⟨M1, M3 ++ L2, by simp, h1, M3, L2, rfl, h2, h4⟩, hl⟩
theorem o_unwr {l : List Oper} {R : Heap} (b : Nat) {xs : List Nat} [hr : Rem H Wr b xs R] (h : ∀ s : SV, O G P N ops l Q t (Vr b [s.val] :: Row s eB xs :: R)) : O G P N ops l Q t H :=
  ⟨fun a w ha hw => let ⟨s, hs⟩ := sat_wr hr hw; (h s).go a w ha hs⟩
theorem w_unwr {c : Code} {R : Heap} (b : Nat) {xs : List Nat} [hr : Rem H Wr b xs R] (h : ∀ s : SV, W G P N c Q t (Vr b [s.val] :: Row s eB xs :: R)) : W G P N c Q t H :=
  ⟨fun a w ha hw => let ⟨s, hs⟩ := sat_wr hr hw; (h s).go a w ha hs⟩
theorem w_hsub {c : Code} {H' : Heap} (hs : HSub H H') (h : W G P N c Q t H') : W G P N c Q t H := ⟨fun a w ha hw => h.go a w ha (hs.sat hw)⟩
theorem o_hsub {l : List Oper} {H' : Heap} (hs : HSub H H') (h : O G P N ops l Q t H') : O G P N ops l Q t H := ⟨fun a w ha hw => h.go a w ha (hs.sat hw)⟩
end
end Go.Sx
