import Derived.Test.YtniphaoadhojlaaGreatDoorSxU
import Derived.Laws.IdiomStrings
set_option linter.all false
namespace Go.Sx
open Go

/-! ## Calls through an interface -/
section
variable {G : Base} {P : Program} {N : Nat} {Q : Post} {t : Tm} {H : Heap} {ops : Array Oper} {dst : Option Tmp} {ty : TypeId} {pos : String} {after : Array Edge} {g : Option (Nat × Bool)} {l : List Oper}
theorem st_invoke {recv : Operand} {name : String} {xs : List Operand} {ats : Array TypeId} {vs ws : List Value} {T : TypeId} {v : Value} {f : FuncId} {K : Value → Heap → Prop} (hr : evo t recv = some (.iface T v)) (hx : evos t xs = some vs)
    (hm : ∀ w, (callMethod (.iface T v) name vs.toArray).run P w = .ok (.enter f ws.toArray) w) (hc : SC G P f ws H K) : St G P ⟨dst, .call ⟨.invoke recv name, xs.toArray, ats⟩, ty, pos, after, g⟩ t H K := by
  intro ρ hρ w hw
  have h1 := hρ _ _ hr
  have h2 : xs.toArray.map ρ = vs.toArray := by rw [List.map_toArray, evos_map hρ hx]
  have : (execOp ρ ⟨dst, .call ⟨.invoke recv name, xs.toArray, ats⟩, ty, pos, after, g⟩).run P w = .ok (.enter f ws.toArray) w := by
    simp only [execOp, resolve, h1, h2, Sem.run_bind, Sem.run_pure, Result.andThen_ok, invoke]
    have e : (#[Value.iface T v] ++ vs.toArray)[0]? = some (Value.iface T v) := by simp
    have e2 : (#[Value.iface T v] ++ vs.toArray).extract 1 (#[Value.iface T v] ++ vs.toArray).size = vs.toArray := by simp
    simp only [e, e2]
    exact hm w
  rw [this]
  exact hc.call w hw

/-! ## Maps from strings, with their values -/
structure MvE (es : List MapEntry) (clock : Nat) (kv : List (ByteArray × Value)) : Prop where
  stamped : MapKept.Stamped es.toArray clock
  keys : es.map (·.key) = kv.map fun p => Value.string p.1
  vals : es.map (·.val) = kv.map (·.2)
def Mv (r : Nat) (kv : List (ByteArray × Value)) : Hp := fun L => ∃ (es : List MapEntry) (clock : Nat), L = [(r, .map es.toArray clock)] ∧ MvE es clock kv

theorem findNow_kv (k : ByteArray) : ∀ (kv : List (ByteArray × Value)) (es : List MapEntry) (i : Nat), es.map (·.key) = kv.map (fun p => Value.string p.1) → es.map (·.val) = kv.map (·.2) →
    (∃ j v, kv[j]? = some (k, v) ∧ Instr.findNow .string (.string k) es i = some (some (i + j, v))) ∨ (k ∉ kv.map (·.1) ∧ Instr.findNow .string (.string k) es i = some none)
  | [], es, i, h, _ => by
    obtain rfl : es = [] := by simpa using h
    exact .inr ⟨by simp, rfl⟩
  | q :: ks, [], i, h, _ => by cases h
  | q :: ks, e :: es, i, h, hv => by
    simp only [List.map_cons, List.cons.injEq] at h hv
    obtain ⟨h1, h2⟩ := h
    obtain ⟨h3, h4⟩ := hv
    have hn : Instr.findNow .string (.string k) (e :: es) i = match Instr.sameNow .string (.string k) (.string q.1) with
        | some true => some (some (i, e.val))
        | some false => Instr.findNow .string (.string k) es (i + 1)
        | none => none := by rw [← h1]; rfl
    rw [hn]
    by_cases hk : k = q.1
    · subst hk
      have hb : (q.1 == q.1) = true := (MapKept.bytes_beq q.1 q.1).2 rfl
      left
      simp only [Instr.sameNow, hb]
      exact ⟨0, q.2, by simp, by rw [h3]; rfl⟩
    · have hb : (k == q.1) = false := by
        cases h : (k == q.1) with
        | false => rfl
        | true => exact absurd ((MapKept.bytes_beq k q.1).1 h) hk
      simp only [Instr.sameNow, hb]
      rcases findNow_kv k ks es (i + 1) h2 h4 with ⟨j, v, h5, h6⟩ | ⟨h5, h6⟩
      · exact .inl ⟨j + 1, v, by simpa using h5, by rw [h6]; simp only [Option.some.injEq, Prod.mk.injEq, and_true]; omega⟩
      · exact .inr ⟨fun h => by
          rcases List.mem_cons.1 h with h | h
          · exact hk h
          · exact h5 h, h6⟩

theorem st_makeMv {T K E : TypeId} {x : Operand} {k : IntKind} {i : Int} [hT : Und P T (.map K E)] (hx : evo t x = some (.int k i)) :
    St G P ⟨dst, .makeMap T (some x), ty, pos, after, g⟩ t H (fun u H' => ∃ r, u = .map (some r) ∧ H' = Mv r [] :: H) :=
  fun ρ hρ w hw => by
    have hr : (execOp ρ ⟨dst, .makeMap T (some x), ty, pos, after, g⟩).run P w = .ok (.value (.map (some w.heap.size))) { w with heap := w.heap.push (.map #[] 0) } := by
      simp only [execOp, Option.map_some, Instr.makeMap, hρ _ _ hx, Sem.run_bind, run_und (T := T), Result.andThen_ok, asInt, asIntOf, Sem.run_pure, run_newObj]
    rw [hr]
    exact ⟨_, (hw.alloc _).cons fun _ hM => ⟨[], 0, hM, ⟨MapKept.stamped_empty 0, rfl, rfl⟩⟩, w.heap.size, rfl, rfl⟩
theorem st_makeMv0 {T : TypeId} :
    St G P ⟨dst, .makeMap T none, ty, pos, after, g⟩ t H (fun u H' => ∃ r, u = .map (some r) ∧ H' = Mv r [] :: H) :=
  fun ρ hρ w hw => by
    have hr : (execOp ρ ⟨dst, .makeMap T none, ty, pos, after, g⟩).run P w = .ok (.value (.map (some w.heap.size))) { w with heap := w.heap.push (.map #[] 0) } := by
      simp only [execOp, Option.map_none, Instr.makeMap, Sem.run_bind, Result.andThen_ok, Sem.run_pure, run_newObj]
    rw [hr]
    exact ⟨_, (hw.alloc _).cons fun _ hM => ⟨[], 0, hM, ⟨MapKept.stamped_empty 0, rfl, rfl⟩⟩, w.heap.size, rfl, rfl⟩

theorem st_look {T K E : TypeId} {x y : Operand} {r sz bb : Nat} {z : Value} {ok : Bool} {kv : List (ByteArray × Value)} {s : ByteArray} {C : Hp → Heap} [hT : Und P T (.map K E)] [hK : Und P K .string] [hE : Inf P E sz bb z] (hx : evo t x = some (.map (some r))) (hy : evo t y = some (.string s)) [hf : Foc H Mv r kv C] :
    St G P ⟨dst, .lookup T x y ok, ty, pos, after, g⟩ t H (fun u H' => H' = H ∧ ((∃ (i : Nat) (v : Value), kv[i]? = some (s, v) ∧ u = if ok then .tuple #[v, .bool true] else v) ∨ (s ∉ kv.map (·.1) ∧ u = if ok then .tuple #[z, .bool false] else z))) :=
  fun ρ hρ w hw => by
    obtain ⟨hS, L, hL, hl⟩ := hw
    obtain ⟨L1, M, L2, rfl, ⟨es, clock, rfl, hk⟩, hB⟩ := hf.foc _ hL
    have hb : w.heap[r]? = some (.map es.toArray clock) := hl.at_ (r, .map es.toArray clock) (by simp)
    have hg := MapKept.run_getObj_map (P := P) hb
    have hck := MapKept.run_checkKey (P := P) (w := w) hK.out (isKey_str s)
    rcases findNow_kv s kv es 0 hk.keys hk.vals with ⟨i, v, h1, h2⟩ | ⟨h1, h2⟩
    · have h3 := MapKept.run_findKey (P := P) (w := w) hK.out h2
      have hr : (execOp ρ ⟨dst, .lookup T x y ok, ty, pos, after, g⟩).run P w = .ok (.value (if ok then .tuple #[v, .bool true] else v)) w := by
        cases ok <;> simp only [execOp, hρ _ _ hx, hρ _ _ hy, Instr.lookup, Sem.run_bind, run_und (T := T), Result.andThen_ok, hg, Sem.run_pure, hck, h3, ↓reduceIte, Bool.false_eq_true]
      rw [hr]
      exact ⟨H, ⟨hS, _, hL, hl⟩, rfl, .inl ⟨i, v, h1, rfl⟩⟩
    · have h3 := MapKept.run_findKey (P := P) (w := w) hK.out h2
      have hr : (execOp ρ ⟨dst, .lookup T x y ok, ty, pos, after, g⟩).run P w = .ok (.value (if ok then .tuple #[z, .bool false] else z)) w := by
        cases ok <;> simp only [execOp, hρ _ _ hx, hρ _ _ hy, Instr.lookup, Sem.run_bind, run_und (T := T), Result.andThen_ok, hg, Sem.run_pure, hck, h3, run_zero (T := E), ↓reduceIte, Bool.false_eq_true]
      rw [hr]
      exact ⟨H, ⟨hS, _, hL, hl⟩, rfl, .inr ⟨h1, rfl⟩⟩

/-- '[]byte(s)'. -/
theorem st_sb {S D E : TypeId} {x : Operand} {q : ByteArray} [hS : Und P S .string] [hD : Und P D (.slice E)] [hE : Und P E (.int .u8)] (hx : evo t x = some (.string q)) :
    St G P ⟨dst, .convert S D x, ty, pos, after, g⟩ t H (fun u H' => ∃ s : SV, u = s.val ∧ H' = Row s eB (byts q) :: H) :=
  fun ρ hρ w hw => by
    have h1 := run_bytes_of_string (P := P) w S D E q hS.out hD.out hE.out
    have hle : q.size ≤ grownCap w q.size 0 E := by unfold grownCap; simp only [Question.cut]; omega
    have hr : (execOp ρ ⟨dst, .convert S D x, ty, pos, after, g⟩).run P w = .ok (.value (.slice (some ⟨w.heap.size, 0, none⟩) q.size (grownCap w q.size 0 E))) (w.drew.alloc (.cells (bytesRow q (grownCap w q.size 0 E)) E ((bytesRow q (grownCap w q.size 0 E)).size, (bytesRow q (grownCap w q.size 0 E)).size + 1))) := by
      simp only [execOp, hρ _ _ hx, Sem.run_bind, h1, Result.andThen_ok, Sem.run_pure]
    rw [hr]
    have hw' : Sat G w.drew H := hw.same rfl ⟨hw.1.os, hw.1.tape, hw.1.output⟩
    refine ⟨_, (hw'.alloc _).cons (B := Row ⟨some ⟨w.heap.size, 0, none⟩, q.size, grownCap w q.size 0 E⟩ eB (byts q)) fun L hM => .inr ⟨w.heap.size, _, _, _, rfl, (byts_length q).symm, hle, hM, ?_, .inr (Nat.le_refl _), ?_⟩, _, rfl, rfl⟩
    · have e1 : q.data.size = q.size := rfl
      simp only [bytesRow, Array.size_append, Array.size_map, Array.size_replicate, show eB.sz = 1 from rfl, e1]; omega
    · intro j v hv
      rw [eB_all] at hv
      have hj := (List.getElem?_eq_some_iff.1 hv).1
      simp only [List.length_map, byts_length] at hj
      have e1 : j < (q.data.map (fun b => Value.int .u8 b.toNat)).size := by simpa using hj
      rw [bytesRow, Array.getElem?_append_left e1, ← hv]
      simp [byts]
      rfl

/-! ## Bools in slices -/
def eBo : Enc Bool := ⟨fun b => [.bool b], 1, false, fun _ => rfl, fun _ v h => by simp at h; subst h; rfl, by decide, fun _ => rfl, by decide⟩
instance {b : Bool} : EncV eBo (.bool b) b := ⟨rfl⟩
instance {b : Bool} : EncW eBo b (.bool b) := ⟨rfl⟩
/-! ## Functions without a body -/
theorem run_extern {f : FuncId} {fn : Func} {e : Array Value → Sem Value} (hf : P.funcs[f]? = some fn) (hn : (fn.name == "runtime.NumGoroutine") = false) (hb : fn.body = none) (h1 : Extern.findNext fn = none) (h2 : Extern.find fn = some e) (as : Array Value) (w : World) :
    (callFunc f as).run P w = ((e as).run P w).andThen fun v w => .ok (.value v) w := by
  simp only [callFunc, Sem.run_bind, run_program, Result.andThen_ok, hf, hn, hb, h1, h2, Option.isNone_none, ↓reduceIte, Bool.false_eq_true]
  rfl
theorem st_ext {f : FuncId} {fn : Func} {e : Array Value → Sem Value} {xs : List Operand} {ats : Array TypeId} {vs : List Value} {v : Value} (hf : P.funcs[f]? = some fn) (hn : (fn.name == "runtime.NumGoroutine") = false) (hb : fn.body = none) (h1 : Extern.findNext fn = none) (h2 : Extern.find fn = some e)
    (hx : evos t xs = some vs) (he : ∀ w, (e vs.toArray).run P w = .ok v w) : St G P ⟨dst, .call ⟨.value (.func f), xs.toArray, ats⟩, ty, pos, after, g⟩ t H (fun u H' => u = v ∧ H' = H) := by
  intro ρ hρ w hw
  have h3 : ρ (.func f) = .func (.func f) #[] #[] := hρ _ _ rfl
  have h4 : xs.toArray.map ρ = vs.toArray := by rw [List.map_toArray, evos_map hρ hx]
  have : (execOp ρ ⟨dst, .call ⟨.value (.func f), xs.toArray, ats⟩, ty, pos, after, g⟩).run P w = .ok (.value v) w := by
    simp only [execOp, resolve, h3, h4, Deferred.ofValue, Sem.run_bind, Sem.run_pure, Result.andThen_ok]
    simp only [invoke, Array.append_empty, Array.empty_append]
    rw [run_extern hf hn hb h1 h2, he]; rfl
  rw [this]
  exact ⟨H, hw, rfl, rfl⟩
def ixR (q : ByteArray) (x : Nat) : Int := match (List.range q.size).find? fun i => q[i]! == UInt8.ofNat x with
  | some i => (i : Int)
  | none => -1
theorem run_ixb (q : ByteArray) (x : Nat) (w : World) : (Extern.BytealgIndexByte.indexByte #[.string q, .int .u8 (x : Int)]).run P w = .ok (.int .i64 (ixR q x)) w := by
  have h : Extern.BytealgIndexByte.indexByte #[.string q, .int .u8 (x : Int)] = (match (List.range q.size).find? fun i => q[i]! == (x : Int).toNat.toUInt8 with
    | some i => (pure (goInt i) : Sem Value)
    | none => pure (goInt (-1))) := rfl
  rw [h, ixR]
  have e : (x : Int).toNat.toUInt8 = UInt8.ofNat x := rfl
  rw [e]
  cases (List.range q.size).find? fun i => q[i]! == UInt8.ofNat x with
  | none => rfl
  | some i => rfl
theorem ixR_nonneg {q : ByteArray} {x : Nat} (hx : x < 256) : 0 ≤ ixR q x ↔ x ∈ byts q := by
  unfold ixR
  cases h : (List.range q.size).find? fun i => q[i]! == UInt8.ofNat x with
  | none =>
    rw [List.find?_eq_none] at h
    simp only [Int.reduceNeg, Int.reduceLE, false_iff]
    intro hm
    obtain ⟨i, hi⟩ := List.mem_iff_getElem?.1 hm
    have hlt := (List.getElem?_eq_some_iff.1 hi).1
    rw [byts_length] at hlt
    have h2 := h i (by simpa using hlt)
    apply h2
    have h3 : q[i]! = q[i] := by simp [hlt]
    rw [h3, beq_iff_eq]
    rw [byts, List.getElem?_map] at hi
    have h4 : q.data.toList[i]? = some q[i] := by
      rw [List.getElem?_eq_getElem (by simpa using hlt)]; rfl
    rw [h4] at hi
    simp only [Option.map_some, Option.some.injEq] at hi
    rw [← hi]; simp
  | some i =>
    have h1 := List.find?_some h
    have h2 := List.mem_of_find?_eq_some h
    have hlt : i < q.size := by simpa using h2
    have h3 : q[i]! = q[i] := by simp [hlt]
    rw [h3, beq_iff_eq] at h1
    constructor
    · intro _
      apply List.mem_iff_getElem?.2
      refine ⟨i, ?_⟩
      have h4 : q.data.toList[i]? = some q[i] := by
        rw [List.getElem?_eq_getElem (by simpa using hlt)]; rfl
      rw [byts, List.getElem?_map, h4, h1]
      simp [Nat.mod_eq_of_lt hx]
    · intro _; simp only; omega
end
end Go.Sx
