import Derived.Test.YtniphaoadhojlaaGreatDoorSxW
import Derived.Maps.RangeRun
import Derived.Laws.Cover1
set_option linter.all false
namespace Go.Sx
open Go

/-! ## Maps from strings: an entry again; the range over one -/
section
variable {G : Base} {P : Program} {N : Nat} {Q : Post} {t : Tm} {H : Heap} {dst : Option Tmp} {ty : TypeId} {pos : String} {after : Array Edge} {g : Option (Nat × Bool)}
/-- An old key in a map from strings. -/
theorem st_mvSet {T K E : TypeId} {x y v : Operand} {r i : Nat} {u u0 : Value} {kv : List (ByteArray × Value)} {s : ByteArray} {C : Hp → Heap} (hx : evo t x = some (.map (some r))) (hy : evo t y = some (.string s)) (hv : evo t v = some u) (hi : kv[i]? = some (s, u0)) (hnd : (kv.map (·.1)).Nodup) [hT : Und P T (.map K E)] [hK : Und P K .string] [hf : Foc H Mv r kv C] :
    St G P ⟨dst, .mapUpdate T x y v, ty, pos, after, g⟩ t H (fun u' H' => u' = undef ∧ H' = C (Mv r (kv.set i (s, u)))) :=
  fun ρ hρ w hw => by
    obtain ⟨hS, L, hL, hl⟩ := hw
    obtain ⟨L1, M, L2, rfl, ⟨es, clock, rfl, hk⟩, hB⟩ := hf.foc _ hL
    have hb : w.heap[r]? = some (.map es.toArray clock) := hl.at_ (r, .map es.toArray clock) (by simp)
    have hg := MapKept.run_getObj_map (P := P) hb
    have hck := MapKept.run_checkKey (P := P) (w := w) hK.out (isKey_str s)
    rcases findNow_kv s kv es 0 hk.keys hk.vals with ⟨j, v', h1, h2⟩ | ⟨h1, h2⟩
    · have hji : j = i := by
        have hjl := (List.getElem?_eq_some_iff.1 h1).1
        exact (List.getElem?_inj (by rw [List.length_map]; exact hjl) hnd).1 (by rw [List.getElem?_map, List.getElem?_map, h1, hi]; rfl)
      subst hji
      have hlen : es.length = kv.length := by have := congrArg List.length hk.keys; simpa using this
      have hjl := (List.getElem?_eq_some_iff.1 h1).1
      obtain ⟨e0, he0⟩ : ∃ e, es[j]? = some e := ⟨_, List.getElem?_eq_getElem (by omega)⟩
      have hkey : e0.key = .string s := by
        have := congrArg (·[j]?) hk.keys
        simp only [List.getElem?_map, he0, h1, Option.map_some, Option.some.injEq] at this
        exact this
      have h3 := MapKept.run_findKey (P := P) (w := w) hK.out h2
      have hks : (Instr.keyThatStays (((es.toArray[0 + j]?).map (·.key)).getD (.string s)) (.string s)).run P w = .ok (.string s) w := by
        rw [Nat.zero_add]
        simp only [List.getElem?_toArray, he0, Option.map_some, Option.getD_some, hkey, Instr.keyThatStays]
        have hb2 : Instr.sameBits 10000 (.string s) (.string s) = true := by
          show (s == s) = true
          exact (MapKept.bytes_beq s s).2 rfl
        rw [if_pos hb2]; rfl
      have hso := MapKept.run_setObj_map (P := P) (.map (es.toArray.modify (0 + j) fun e => { e with key := .string s, val := u }) clock) hb
      have hr : (execOp ρ ⟨dst, .mapUpdate T x y v, ty, pos, after, g⟩).run P w = .ok .skip (setBlk w r (.map (es.toArray.modify (0 + j) fun e => { e with key := .string s, val := u }) clock)) := by
        simp only [execOp, hρ _ _ hx, hρ _ _ hy, hρ _ _ hv, Instr.mapUpdate, Sem.run_bind, run_und (T := T), Result.andThen_ok, hg, hck, h3, hks, hso, Sem.run_pure]
        rfl
      have hst : MapKept.Stamped (es.toArray.modify (0 + j) fun e => { e with key := .string s, val := u }) clock :=
        MapKept.stamped_modify hk.stamped (0 + j) _ (fun _ _ => rfl) (fun e _ he => by
          simp only [Nat.zero_add, List.getElem?_toArray, he0, Option.some.injEq] at he
          rw [← he]; exact hkey.symm)
      rw [hr]
      have hlist : es.toArray.modify (0 + j) (fun e => { e with key := .string s, val := u }) = (es.modify j fun e => { e with key := .string s, val := u }).toArray := by simp
      rw [hlist] at hst ⊢
      refine ⟨C (Mv r (kv.set j (s, u))), ⟨⟨hS.os, hS.tape, hS.output⟩, _, hB _ [(r, .map (es.modify j fun e => { e with key := .string s, val := u }).toArray clock)] ⟨_, clock, rfl, ⟨hst, ?_, ?_⟩⟩, ?_⟩, rfl, rfl⟩
      · apply List.ext_getElem?
        intro m
        have hm := congrArg (·[m]?) hk.keys
        simp only [List.getElem?_map, List.getElem?_modify, List.getElem?_set] at hm ⊢
        by_cases hmj : j = m
        · subst hmj; simp [he0, hjl]
        · simp only [hmj, if_false, Option.map_eq_map, id_map'] at hm ⊢
          simpa using hm
      · apply List.ext_getElem?
        intro m
        have hm := congrArg (·[m]?) hk.vals
        simp only [List.getElem?_map, List.getElem?_modify, List.getElem?_set] at hm ⊢
        by_cases hmj : j = m
        · subst hmj; simp [he0, hjl]
        · simp only [hmj, if_false, Option.map_eq_map, id_map'] at hm ⊢
          simpa using hm
      · have := Lies.change (w' := setBlk w r (.map (es.modify j fun e => { e with key := .string s, val := u }).toArray clock)) (L1 := L1) (L2 := L2) (b := r) (o := .map es.toArray clock) (o' := .map (es.modify j fun e => { e with key := .string s, val := u }).toArray clock) (by simpa using hl) (setBlk_get hb) (fun i hi _ => setBlk_other hi)
        simpa using this
    · exact absurd (List.mem_map.2 ⟨_, List.mem_of_getElem? hi, rfl⟩) h1

/-- A map that is gone through: the map's block and the iterator's; done: the keys that came out. -/
structure RgE (es : List MapEntry) (seen : Array Nat) (kv : List (ByteArray × Value)) (done : List ByteArray) : Prop where
  was : ∀ (i : Nat) (e : MapEntry) (p : ByteArray × Value), es[i]? = some e → kv[i]? = some p → (seen.contains e.born = true ↔ p.1 ∈ done)
  last : ∀ k, done.getLast? = some k → ∃ (e : MapEntry) (s0 : Array Nat) (j : Nat), es[j]? = some e ∧ (∃ v, kv[j]? = some (k, v)) ∧ seen = s0.push e.born
def Rg (i : Nat × Nat) (q : List (ByteArray × Value) × List ByteArray) : Hp := fun L => ∃ (es : List MapEntry) (clock : Nat) (seen : Array Nat), L = [(i.1, .map es.toArray clock), (i.2, .mapIter (some i.1) clock seen clock)] ∧ MvE es clock q.1 ∧ RgE es seen q.1 q.2

theorem st_range {T K E : TypeId} {x : Operand} {r : Nat} {kv : List (ByteArray × Value)} {R : Heap} (hx : evo t x = some (.map (some r))) [hT : Und P T (.map K E)] [hr : Rem H Mv r kv R] :
    St G P ⟨dst, .range T x, ty, pos, after, g⟩ t H (fun u H' => ∃ it, u = .pointer (some ⟨it, 0, none⟩) ∧ H' = Rg (r, it) (kv, []) :: R) :=
  fun ρ hρ w hw => by
    have hw2 := hr.sat hw
    obtain ⟨hS, L, ⟨L1, L2, rfl, ⟨es, clock, rfl, hk⟩, hL2⟩, hl⟩ := hw2
    have hb : w.heap[r]? = some (.map es.toArray clock) := hl.at_ (r, .map es.toArray clock) (by simp)
    have hg := MapKept.run_getObj_map (P := P) hb
    have hrr : (execOp ρ ⟨dst, .range T x, ty, pos, after, g⟩).run P w = .ok (.value (.pointer (some ⟨w.heap.size, 0, none⟩))) { w with heap := w.heap.push (.mapIter (some r) clock #[] clock) } := by
      simp only [execOp, hρ _ _ hx, Instr.range, Sem.run_bind, run_und (T := T), Result.andThen_ok, hg, Sem.run_pure, run_newObj]
    rw [hrr]
    have h2 : Lies { w with heap := w.heap.push (.mapIter (some r) clock #[] clock) } (([(r, .map es.toArray clock)] : Frag) ++ ([(w.heap.size, .mapIter (some r) clock #[] clock)] ++ L2)) := Lies.push (M := []) (L1 := [(r, .map es.toArray clock)]) (by simpa using hl) _
    refine ⟨Rg (r, w.heap.size) (kv, []) :: R, ⟨⟨hS.os, hS.tape, hS.output⟩, _, ⟨[(r, .map es.toArray clock), (w.heap.size, .mapIter (some r) clock #[] clock)], L2, rfl, ⟨es, clock, #[], rfl, hk, ⟨fun _ _ _ _ _ => by simp, fun k hk => by simp at hk⟩⟩, hL2⟩, ?_⟩, _, rfl, rfl⟩
    simpa using h2

theorem st_next {x : Operand} {r it : Nat} {q : List (ByteArray × Value) × List ByteArray} {R : Heap} (hx : evo t x = some (.pointer (some ⟨it, 0, none⟩))) [hr : Rem H Rg (r, it) q R] :
    St G P ⟨dst, .next x false, ty, pos, after, g⟩ t H (fun u H' => (∃ (i : Nat) (k : ByteArray) (v : Value), q.1[i]? = some (k, v) ∧ k ∉ q.2 ∧ u = .tuple #[.bool true, .string k, v] ∧ H' = Rg (r, it) (q.1, q.2 ++ [k]) :: R) ∨ ((∀ p ∈ q.1, p.1 ∈ q.2) ∧ u = .tuple #[.bool false] ∧ H' = Rg (r, it) q :: R)) :=
  fun ρ hρ w hw => by
    have hw2 := hr.sat hw
    obtain ⟨hS, L, ⟨L1, L2, rfl, ⟨es, clock, seen, rfl, hk, hs⟩, hL2⟩, hl⟩ := hw2
    have hb : w.heap[r]? = some (.map es.toArray clock) := hl.at_ (r, .map es.toArray clock) (by simp)
    have hi : w.heap[it]? = some (.mapIter (some r) clock seen clock) := hl.at_ (it, .mapIter (some r) clock seen clock) (by simp)
    have hlen : es.length = q.1.length := by have := congrArg List.length hk.keys; simpa using this
    have hat : ∀ (j : Nat) (e : MapEntry), es[j]? = some e → ∃ p, q.1[j]? = some p ∧ e.key = .string p.1 ∧ e.val = p.2 := by
      intro j e he
      obtain ⟨p, hp⟩ : ∃ p, q.1[j]? = some p := ⟨_, List.getElem?_eq_getElem (by have := (List.getElem?_eq_some_iff.1 he).1; omega)⟩
      have h1 := congrArg (·[j]?) hk.keys
      have h2 := congrArg (·[j]?) hk.vals
      simp only [List.getElem?_map, he, hp, Option.map_some, Option.some.injEq] at h1 h2
      exact ⟨p, hp, h1, h2⟩
    rcases run_next_at (P := P) w ty it r clock clock seen es.toArray clock hi hb (fun x hx => hk.stamped.1 x hx) (Nat.le_refl _) with ⟨h0, hrun⟩ | ⟨e, he, w1, hw1, hrun⟩
    · have hrr : (execOp ρ ⟨dst, .next x false, ty, pos, after, g⟩).run P w = .ok (.value (.tuple #[.bool false])) w := by
        simp only [execOp, hρ _ _ hx, Sem.run_bind, hrun, Result.andThen_ok, Sem.run_pure]
      rw [hrr]
      refine ⟨Rg (r, it) q :: R, ⟨hS, _, ⟨[(r, .map es.toArray clock), (it, .mapIter (some r) clock seen clock)], L2, rfl, ⟨es, clock, seen, rfl, hk, hs⟩, hL2⟩, hl⟩, .inr ⟨fun p hp => ?_, rfl, rfl⟩⟩
      obtain ⟨j, hj⟩ := List.getElem?_of_mem hp
      obtain ⟨e, he⟩ : ∃ e, es[j]? = some e := ⟨_, List.getElem?_eq_getElem (by have := (List.getElem?_eq_some_iff.1 hj).1; omega)⟩
      refine (hs.was j e p he hj).1 ?_
      have hl0 : leftOf es.toArray seen = #[] := Array.eq_empty_of_size_eq_zero h0
      have h5 := Array.filter_eq_empty_iff.1 hl0 e (by simpa using List.mem_of_getElem? he)
      simpa using h5
    · have hrr : (execOp ρ ⟨dst, .next x false, ty, pos, after, g⟩).run P w = .ok (.value (.tuple #[.bool true, e.key, e.val])) (ChangeMaps.setBlock w1 it (.mapIter (some r) clock (seen.push e.born) clock)) := by
        simp only [execOp, hρ _ _ hx, Sem.run_bind, hrun, Result.andThen_ok, Sem.run_pure]
      rw [hrr]
      have he2 : e ∈ es ∧ seen.contains e.born = false := by
        have : e ∈ leftOf es.toArray seen := by simpa using he
        simp only [leftOf, Array.mem_filter] at this
        exact ⟨by simpa using this.1, by simpa using this.2⟩
      obtain ⟨j, hj⟩ := List.getElem?_of_mem he2.1
      obtain ⟨p, hp, hpk, hpv⟩ := hat j e hj
      have hno : p.1 ∉ q.2 := fun hh => by have := (hs.was j e p hj hp).2 hh; rw [he2.2] at this; cases this
      have hheap : w1.heap = w.heap := by rcases hw1 with rfl | rfl <;> rfl
      have hsame : Same G w1 := by rcases hw1 with rfl | rfl <;> exact ⟨hS.os, hS.tape, hS.output⟩
      refine ⟨Rg (r, it) (q.1, q.2 ++ [p.1]) :: R, ⟨⟨hsame.os, hsame.tape, hsame.output⟩, _, ⟨[(r, .map es.toArray clock), (it, .mapIter (some r) clock (seen.push e.born) clock)], L2, rfl, ⟨es, clock, _, rfl, hk, ⟨fun m e' p' he' hp' => ?_, fun k hk => by simp at hk; subst hk; exact ⟨e, seen, j, hj, ⟨p.2, hp⟩, rfl⟩⟩⟩, hL2⟩, ?_⟩, .inl ⟨j, p.1, p.2, hp, hno, by rw [hpk, hpv], rfl⟩⟩
      · have hold := hs.was m e' p' he' hp'
        simp only [Array.contains_iff_mem, Array.mem_push, List.mem_append, List.mem_singleton] at hold ⊢
        rw [← hold]
        have hborn : e'.born = e.born ↔ p'.1 = p.1 := by
          have hml := (List.getElem?_eq_some_iff.1 he').1
          constructor
          · intro hh
            have : m = j := (List.getElem?_inj (by rw [List.length_map]; exact hml) hk.stamped.2.1).1 (by simp only [List.toList_toArray, List.getElem?_map, he', hj, Option.map_some, hh])
            subst this; rw [hp] at hp'; rw [Option.some.inj hp']
          · intro hh
            have hkk : e'.key = e.key := by
              obtain ⟨p2, h1, h2, _⟩ := hat m e' he'
              rw [hp'] at h1; rw [h2, ← Option.some.inj h1, hh, hpk]
            have : m = j := (List.getElem?_inj (by rw [List.length_map]; exact hml) hk.stamped.2.2).1 (by simp only [List.toList_toArray, List.getElem?_map, he', hj, Option.map_some, hkk])
            subst this; rw [hj] at he'; rw [Option.some.inj he']
        rw [hborn]
      · have hl1 : Lies w1 (([(r, .map es.toArray clock)] : Frag) ++ (it, .mapIter (some r) clock seen clock) :: L2) := ⟨hl.nodup, fun x hx => by rw [hheap]; exact hl.at_ x hx⟩
        have hset : (ChangeMaps.setBlock w1 it (.mapIter (some r) clock (seen.push e.born) clock)).heap = w1.heap.setIfInBounds it (.mapIter (some r) clock (seen.push e.born) clock) := rfl
        have hlt : it < w1.heap.size := by rw [hheap]; exact (Array.getElem?_eq_some_iff.1 hi).1
        have := Lies.change (w' := ChangeMaps.setBlock w1 it (.mapIter (some r) clock (seen.push e.born) clock)) (o' := .mapIter (some r) clock (seen.push e.born) clock) hl1 (by rw [hset, Array.getElem?_setIfInBounds, if_pos rfl, if_pos hlt]) (fun i hi _ => by rw [hset, Array.getElem?_setIfInBounds, if_neg (fun h => hi h.symm)])
        simpa using this
theorem HSub.rg {R H' : Heap} {r it : Nat} {q : List (ByteArray × Value) × List ByteArray} (hr : Rem H Rg (r, it) q R) (h : HSub (Mv r q.1 :: R) H') : HSub H H' := HSub.rem hr (HSub.trans (fun L hL => by
  obtain ⟨L1, L2, rfl, ⟨es, clock, seen, rfl, hk, _⟩, h2⟩ := hL
  exact ⟨[(r, .map es.toArray clock)] ++ L2, [(it, .mapIter (some r) clock seen clock)], ⟨[(r, .map es.toArray clock)], L2, rfl, ⟨es, clock, rfl, hk⟩, h2⟩, by
    simp only [List.cons_append, List.nil_append, List.append_assoc]
    exact List.Perm.cons _ List.perm_append_comm⟩) h)

/-! ## A field of an element -/
theorem st_store_fl {T : TypeId} {x y : Operand} {s : SV} {i o sz bb : Nat} {z v : Value} {α : Type} {e : Enc α} {xs : List α} {a : α} {C : Hp → Heap} (hx : evo t x = some (.pointer (s.elt sz i o))) (hy : evo t y = some v) [hT : Inf P T 1 bb z] [hv1 : OneV v] [hf : FocR H s e xs C] (hsz : e.sz = sz) (a0 : α) (hi : xs[i]? = some a0) (ho : o < e.sz) (ha : e.f a = (e.f a0).set o v) :
    St G P ⟨dst, .store T x y, ty, pos, after, g⟩ t H (fun u H' => u = undef ∧ H' = C (Row s e (xs.set i a))) :=
  fun ρ hρ w hw => by
    subst hsz
    have hlt := (List.getElem?_eq_some_iff.1 hi).1
    obtain ⟨L1, M, L2, hl, hM, hB⟩ := hf.split hw
    rcases hM with ⟨rfl, rfl, rfl⟩ | ⟨b, C0, E0, fz, g1, g2, g3, rfl, g5, g6, g7⟩
    · simp at hlt
    · have hbw : w.heap[b]? = some (.cells C0 E0 fz) := hl.at_ (b, .cells C0 E0 fz) (by simp)
      have hle : i * e.sz + e.sz ≤ C0.size := by
        rw [g5, show i * e.sz + e.sz = (i + 1) * e.sz by rw [Nat.add_mul]; omega]
        exact Nat.mul_le_mul_right _ (by omega)
      have hone : v.oneCell' = true := by
        have h1 := e.one a v
        exact h1 (by rw [ha]; exact List.mem_of_getElem? (List.getElem?_set_self (by rw [e.len]; exact ho)))
      have hst := run_storeCells_blk (P := P) (o := i * e.sz + o) [v] 0 C0 w hbw (fun j _ h => g6.free j (by simp at h; omega)) (by simp; omega) (fun u hu => by simp at hu; subst hu; exact hone)
      have hcs : v.cells = #[v] := (Cells.single (v := v)).out
      have hn : v.cells.size = 1 := by rw [hcs]; rfl
      have hx' := hρ _ _ hx
      simp only [SV.elt, g1, Option.map_some, Nat.zero_add] at hx'
      have hr : (execOp ρ ⟨dst, .store T x y, ty, pos, after, g⟩).run P w = .ok .skip (setBlk w b (.cells (putAt C0 (i * e.sz + o) [v]) E0 fz)) := by
        simp only [execOp, hx', hρ _ _ hy, Instr.storeAt, Instr.sureAddr, storeVar, Sem.run_bind, Sem.run_pure, Result.andThen_ok, run_sizeOf (T := T), hn]
        simp only [ne_eq, not_true_eq_false, ↓reduceIte]
        rw [hcs]
        simp only [Nat.add_zero] at hst ⊢
        rw [hst]; rfl
      rw [hr]
      have hput : putAt C0 (i * e.sz + o) [v] = putAt C0 (i * e.sz) (e.f a) := by
        apply Array.ext_getElem?
        intro j
        rw [putAt_get _ _ _ _ (by simp; omega), putAt_get _ _ _ _ (by rw [e.len]; exact hle), e.len]
        simp only [List.length_cons, List.length_nil, Nat.zero_add]
        by_cases hj : i * e.sz ≤ j ∧ j < i * e.sz + e.sz
        · rw [if_pos hj, ha, List.getElem?_set]
          by_cases hjo : o = j - i * e.sz
          · rw [if_pos (by omega), if_pos hjo, if_pos (by rw [e.len]; exact ho), show j - (i * e.sz + o) = 0 by omega]; rfl
          · rw [if_neg (by omega), if_neg hjo]
            obtain ⟨d, rfl⟩ : ∃ d, j = i * e.sz + d := ⟨j - i * e.sz, by omega⟩
            have hd : d < e.sz := by omega
            rw [Nat.add_sub_cancel_left, ← e.all_get xs i d a0 hi hd]
            obtain ⟨u, hu⟩ : ∃ u, (e.all xs)[i * e.sz + d]? = some u := by
              rw [e.all_get xs i d a0 hi hd]
              exact ⟨_, List.getElem?_eq_getElem (by rw [e.len]; exact hd)⟩
            rw [hu]; exact g7 _ u hu
        · rw [if_neg hj, if_neg (by omega)]
      rw [hput]
      refine ⟨C (Row s e (xs.set i a)), ⟨⟨hw.1.os, hw.1.tape, hw.1.output⟩, _, hB _ [(b, .cells (putAt C0 (i * e.sz) (e.f a)) E0 fz)] (.inr ⟨b, _, E0, fz, g1, by rw [List.length_set]; exact g2, g3, rfl, by rw [putAt_size, g5], by rw [putAt_size]; exact g6, ?_⟩), ?_⟩, rfl, rfl⟩
      · intro j u hu
        rw [putAt_get _ _ _ _ (by rw [e.len]; exact hle), e.len]
        rw [List.set_eq_take_append_cons_drop, if_pos hlt, e.all_append, e.all_cons] at hu
        have hla : (e.all (xs.take i)).length = i * e.sz := by rw [e.all_length, List.length_take, Nat.min_eq_left (by omega)]
        by_cases hj : j < i * e.sz
        · rw [if_neg (by omega)]
          rw [List.getElem?_append_left (by omega), e.all_take, List.getElem?_take_of_lt hj] at hu
          exact g7 j u hu
        · rw [List.getElem?_append_right (by omega), hla] at hu
          by_cases hj2 : j < i * e.sz + e.sz
          · rw [if_pos (by omega)]
            rw [List.getElem?_append_left (by rw [e.len]; omega)] at hu
            exact hu
          · rw [if_neg (by omega)]
            rw [List.getElem?_append_right (by rw [e.len]; omega), e.len, e.all_drop, List.getElem?_drop, Nat.add_mul, Nat.one_mul] at hu
            exact g7 j u (by rw [← hu]; congr 1; omega)
      · have := Lies.change (w' := setBlk w b (.cells (putAt C0 (i * e.sz) (e.f a)) E0 fz)) (L1 := L1) (L2 := L2) (b := b) (o := .cells C0 E0 fz) (o' := .cells (putAt C0 (i * e.sz) (e.f a)) E0 fz) (by simpa using hl) (setBlk_get hbw) (fun i hi _ => setBlk_other hi)
        simpa using this

/-! ## Strings in order -/
theorem toList_lt (a b : ByteArray) : a.toList < b.toList ↔ byts a < byts b := by
  have key : ∀ x y : List UInt8, x < y ↔ x.map (·.toNat) < y.map (·.toNat) := by
    intro x
    induction x with
    | nil => intro y; cases y <;> simp
    | cons a x ih =>
      intro y
      cases y with
      | nil => simp
      | cons b y =>
        simp only [List.map_cons, List.cons_lt_cons_iff, ih y, UInt8.lt_iff_toNat_lt, UInt8.toNat_inj]
  rw [ByteArray.toList_eq, ByteArray.toList_eq]
  exact key _ _
theorem bytesLess_eq : ∀ (x y : List UInt8), Op.bytesLess x y = decide (x < y)
  | [], [] => by simp [Op.bytesLess]
  | _ :: _, [] => by simp [Op.bytesLess]
  | [], _ :: _ => by simp [Op.bytesLess]
  | a :: x, b :: y => by
    rw [Op.bytesLess, bytesLess_eq x y]
    by_cases h1 : a < b
    · simp [h1, List.cons_lt_cons_iff]
    · by_cases h2 : a = b
      · subst h2; simp [List.cons_lt_cons_iff]
      · simp [h1, h2, List.cons_lt_cons_iff]
theorem bytesLess_byts (a b : ByteArray) : Op.bytesLess a.toList b.toList = decide (byts a < byts b) := by
  rw [bytesLess_eq]
  exact decide_eq_decide.2 (toList_lt a b)
theorem slt_ {T U : TypeId} {x y : Operand} {a b : ByteArray} (hx : evo t x = some (.string a) := by exact rfl) (hy : evo t y = some (.string b) := by exact rfl) : Ev G P ⟨dst, .binOp .lss T x y U, ty, pos, after, g⟩ t H (.bool (decide (byts a < byts b))) :=
  fun ρ hρ w _ => by
    simp only [execOp, hρ _ _ hx, hρ _ _ hy, eqGuard, binOp_string_lss, bytesLess_byts]
    rfl
theorem sle_ {T U : TypeId} {x y : Operand} {a b : ByteArray} (hx : evo t x = some (.string a) := by exact rfl) (hy : evo t y = some (.string b) := by exact rfl) : Ev G P ⟨dst, .binOp .leq T x y U, ty, pos, after, g⟩ t H (.bool (!decide (byts b < byts a))) :=
  fun ρ hρ w _ => by
    have e : (Op.bytesLess a.toList b.toList || a.toList == b.toList) = !decide (byts b < byts a) := by
      rw [bytesLess_byts, ba_beq, Bool.eq_iff_iff]
      simp only [Bool.or_eq_true, decide_eq_true_eq, Bool.not_eq_true', decide_eq_false_iff_not]
      rw [List.not_lt, List.le_iff_lt_or_eq]
    simp only [execOp, hρ _ _ hx, hρ _ _ hy, eqGuard, binOp_string_leq, e]
    rfl
theorem sge_ {T U : TypeId} {x y : Operand} {a b : ByteArray} (hx : evo t x = some (.string a) := by exact rfl) (hy : evo t y = some (.string b) := by exact rfl) : Ev G P ⟨dst, .binOp .geq T x y U, ty, pos, after, g⟩ t H (.bool (!decide (byts a < byts b))) :=
  fun ρ hρ w _ => by
    simp only [execOp, hρ _ _ hx, hρ _ _ hy, eqGuard, binOp_string_geq, bytesLess_byts]
    rfl
end
end Go.Sx
namespace Go.Sx
open Go
section
variable {G : Base} {P : Program} {N : Nat} {Q : Post} {t : Tm} {H : Heap} {dst : Option Tmp} {ty : TypeId} {pos : String} {after : Array Edge} {g : Option (Nat × Bool)}
/-! ## Arrays as values -/
theorem ev_buildA {T E : TypeId} {n sz bb s b2 : Nat} {z zT : Value} {ps : List (Nat × Operand)} {vs : List (Nat × Value)} (l : List Value) (hp : evps t ps = some vs) [hT : Und P T (.array n E)] [hE : Inf P E sz bb z] [hI : Inf P T s b2 zT] (hf : Instr.fill (fun i => some (i * sz, sz)) zT.cells vs = some l.toArray) :
    Ev G P ⟨dst, .build T ps.toArray, ty, pos, after, g⟩ t H (.agg l.toArray) :=
  fun ρ hρ w _ => by
    have e3 : (ps.toArray.map fun (i, x) => (i, ρ x)).toList = vs := by simp [evps_map hρ hp]
    simp only [execOp, Instr.build, Sem.run_bind, run_und (T := T), run_zero (T := T), run_sizeOf (T := E), Result.andThen_ok, e3, hf, Sem.run_pure]
theorem ev_indexA {T E : TypeId} {n bb : Nat} {z v : Value} {x ix : Operand} {k : IntKind} {j : Int} {l : List Value} (i : Nat) (hx : evo t x = some (.agg l.toArray)) (hi : evo t ix = some (.int k j)) (hj : j = (i : Int)) [hT : Und P T (.array n E)] [hO : One P E] [hE : Inf P E 1 bb z] (hn : i < n) (hv : l[i]? = some v) :
    Ev G P ⟨dst, .index T x ix, ty, pos, after, g⟩ t H v :=
  fun ρ hρ w _ => by
    subst hj
    have h1 : (0 ≤ ((i : Nat) : Int) ∧ ((i : Nat) : Int) < ((n : Nat) : Int)) := by omega
    simp only [execOp, Instr.index, hρ _ _ hx, hρ _ _ hi, asIntOf, Sem.run_bind, run_und (T := T), run_sizeOf (T := E), run_isAgg_one (T := E), Result.andThen_ok, Sem.run_pure, if_pos h1, part, Bool.false_eq_true, ↓reduceIte, Int.toNat_natCast, Nat.mul_one, List.getElem?_toArray, hv]
end
end Go.Sx
namespace Go.Sx
open Go
section
variable {G : Base} {P : Program} {t : Tm} {H : Heap} {dst : Option Tmp} {ty : TypeId} {pos : String} {after : Array Edge} {g : Option (Nat × Bool)}
theorem nodup_of {α β : Type} {f : α → β} {l : List α} (h : (l.map f).Nodup) : l.Nodup := (List.pairwise_map.1 h).imp fun h e => h (congrArg f e)
theorem ev_lenM {x : Operand} {T K E : TypeId} {r : Nat} {kv : List (ByteArray × Value)} {C : Hp → Heap} (hx : evo t x = some (.map (some r))) [hT : Und P T (.map K E)] [hf : Foc H Mv r kv C] :
    Ev G P ⟨dst, .call ⟨.builtin .len, #[x], #[T]⟩, ty, pos, after, g⟩ t H (.int .i64 ((kv.length : Nat) : Int)) :=
  fun ρ hρ w hw => by
    obtain ⟨hS, L, hL, hl⟩ := hw
    obtain ⟨L1, M, L2, rfl, ⟨es, clock, rfl, hk⟩, hB⟩ := hf.foc _ hL
    have hb : w.heap[r]? = some (.map es.toArray clock) := hl.at_ (r, .map es.toArray clock) (by simp)
    have hg := MapKept.run_getObj_map (P := P) hb
    have hlen : es.length = kv.length := by have := congrArg List.length hk.keys; simpa using this
    simp only [execOp, resolve, Sem.run_bind, Sem.run_pure, Result.andThen_ok, invoke, builtin, Builtin.len_, List.map_toArray, List.map_cons, List.map_nil, hρ _ _ hx, List.getElem?_toArray, List.getElem?_cons_zero, run_und (T := T), hg, goInt, List.size_toArray, hlen]
theorem ev_entry {x : Operand} {r it i : Nat} {q : List (ByteArray × Value) × List ByteArray} {k : ByteArray} {v : Value} {d0 : List ByteArray} {C : Hp → Heap} (hx : evo t x = some (.pointer (some ⟨it, 0, none⟩))) (hd : q.2 = d0 ++ [k]) (hi : q.1[i]? = some (k, v)) [hf : Foc H Rg (r, it) q C] :
    Ev G P ⟨dst, .entry x, ty, pos, after, g⟩ t H (.tuple #[.string k, v]) :=
  fun ρ hρ w hw => by
    obtain ⟨hS, L, hL, hl⟩ := hw
    obtain ⟨L1, M, L2, rfl, ⟨es, clock, seen, rfl, hk, hs⟩, hB⟩ := hf.foc _ hL
    have hb : w.heap[r]? = some (.map es.toArray clock) := hl.at_ (r, .map es.toArray clock) (by simp)
    have hit : w.heap[it]? = some (.mapIter (some r) clock seen clock) := hl.at_ (it, .mapIter (some r) clock seen clock) (by simp)
    obtain ⟨e, s0, j, he, hj, hsn⟩ := hs.last k (by rw [hd]; simp)
    obtain ⟨v', hj⟩ := hj
    have h1 := congrArg (·[j]?) hk.keys
    have h2 := congrArg (·[j]?) hk.vals
    simp only [List.getElem?_map, he, hj, Option.map_some, Option.some.injEq] at h1 h2
    have hji : j = i := by
      have hnd : (q.1.map (·.1)).Nodup := by
        have h5 := hk.stamped.2.2
        rw [List.toList_toArray, hk.keys, show (fun p : ByteArray × Value => Value.string p.1) = Value.string ∘ (·.1) from rfl, ← List.map_map] at h5
        exact nodup_of h5
      have hjl := (List.getElem?_eq_some_iff.1 hj).1
      exact (List.getElem?_inj (by rw [List.length_map]; exact hjl) hnd).1 (by rw [List.getElem?_map, List.getElem?_map, hj, hi]; rfl)
    subst hji
    rw [hi] at hj
    cases hj
    have hrun := run_entry_at (P := P) w it r clock s0 es.toArray clock e (by rw [← hsn]; exact hit) hb (by simpa using List.mem_of_getElem? he) hk.stamped.2.1
    simp only [execOp, hρ _ _ hx, Sem.run_bind, hrun, Result.andThen_ok, Sem.run_pure, h1, h2]
end
end Go.Sx
namespace Go.Sx
theorem sl_less {H H' : Heap} {s : SV} {α : Type} {e : Enc α} {xs : List α} (h : HSub H H') (hs : Sl H' s e xs) : Sl H s e xs := Sl.hsub h hs
theorem HSub.none {H : Heap} : HSub H [] := fun L _ => ⟨[], L, rfl, by simp⟩
end Go.Sx
