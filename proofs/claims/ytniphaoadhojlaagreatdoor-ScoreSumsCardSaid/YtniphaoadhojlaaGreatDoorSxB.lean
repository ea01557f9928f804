import Derived.Calls
import Derived.Tactics
import Derived.Orders
import Derived.Still
set_option linter.all false
namespace Go.Sx
open Go

/-! ## What is outside the heap -/
structure Base where
  os : Os
  tape : Nat → Question → Nat
  output : Array (Nat × ByteArray)
  /-- the type of the errors' values, and the blocks that they point to -/
  eT : TypeId
  eb : Nat → Nat
  eo : Nat → Nat

structure Same (G : Base) (w : World) : Prop where
  os : w.os = G.os
  tape : w.tape = G.tape
  output : w.output = G.output

/-! ## Symbolic heaps: a list of assertions over disjoint pieces of memory -/
abbrev Frag := List (Nat × Obj)
abbrev Hp := Frag → Prop
abbrev Heap := List Hp

def Sep : Heap → Frag → Prop
  | [], L => L = []
  | A :: H, L => ∃ L1 L2, L = L1 ++ L2 ∧ A L1 ∧ Sep H L2

structure Lies (w : World) (L : Frag) : Prop where
  nodup : (L.map (·.1)).Nodup
  at_ : ∀ x ∈ L, w.heap[x.1]? = some x.2

def Sat (G : Base) (w : World) (H : Heap) : Prop := Same G w ∧ ∃ L, Sep H L ∧ Lies w L

/-- Block b holds just the object o. -/
def Pt (b : Nat) (o : Obj) : Hp := fun L => L = [(b, o)]

theorem Sat.same {G : Base} {w w' : World} {H : Heap} (h : Sat G w H) (hh : w'.heap = w.heap) (hs : Same G w') : Sat G w' H := by
  obtain ⟨_, L, hL, hl⟩ := h
  exact ⟨hs, L, hL, hl.nodup, by rw [hh]; exact hl.at_⟩

theorem Sat.drop {G : Base} {w : World} {A : Hp} {H : Heap} (h : Sat G w (A :: H)) : Sat G w H := by
  obtain ⟨hs, L, ⟨L1, L2, rfl, _, hL2⟩, hl⟩ := h
  refine ⟨hs, L2, hL2, ?_, fun x hx => hl.at_ x (List.mem_append_right _ hx)⟩
  have := hl.nodup
  rw [List.map_append] at this
  exact (List.nodup_append.1 this).2.1

theorem Sat.cons {G : Base} {w : World} {A B : Hp} {H : Heap} (h : Sat G w (A :: H)) (hab : ∀ L, A L → B L) : Sat G w (B :: H) := by
  obtain ⟨hs, L, ⟨L1, L2, rfl, h1, hL2⟩, hl⟩ := h
  exact ⟨hs, _, ⟨L1, L2, rfl, hab _ h1, hL2⟩, hl⟩

theorem Sat.imp {G : Base} {w : World} {H H' : Heap} (h : Sat G w H) (hab : ∀ L, Sep H L → ∃ L', Sep H' L' ∧ (L'.Sublist L ∨ L'.Perm L)) : Sat G w H' := by
  obtain ⟨hs, L, hL, hl⟩ := h
  obtain ⟨L', hL', hp⟩ := hab L hL
  refine ⟨hs, L', hL', ?_, ?_⟩
  · rcases hp with hp | hp
    · exact (hp.map _).nodup hl.nodup
    · exact ((hp.map _).nodup_iff).2 hl.nodup
  · intro x hx
    rcases hp with hp | hp
    · exact hl.at_ x (hp.subset hx)
    · exact hl.at_ x (hp.mem_iff.1 hx)

theorem Lies.lt {w : World} {L : Frag} (h : Lies w L) {x : Nat × Obj} (hx : x ∈ L) : x.1 < w.heap.size := by
  have := h.at_ x hx
  exact (Array.getElem?_eq_some_iff.1 this).1

theorem Sat.alloc {G : Base} {w : World} {H : Heap} (h : Sat G w H) (o : Obj) : Sat G { w with heap := w.heap.push o } (Pt w.heap.size o :: H) := by
  obtain ⟨hs, L, hL, hl⟩ := h
  refine ⟨⟨hs.os, hs.tape, hs.output⟩, (w.heap.size, o) :: L, ⟨[(w.heap.size, o)], L, rfl, rfl, hL⟩, ?_, ?_⟩
  · rw [List.map_cons, List.nodup_cons]
    refine ⟨fun hm => ?_, hl.nodup⟩
    obtain ⟨x, hx, he⟩ := List.mem_map.1 hm
    have := hl.lt hx
    simp only at he
    omega
  · intro x hx
    rcases List.mem_cons.1 hx with rfl | hx
    · simp
    · have := hl.lt hx
      have h2 := hl.at_ x hx
      simp only [Array.getElem?_push]
      rw [if_neg (by omega)]
      exact h2

theorem Lies.change {w w' : World} {L1 L2 : Frag} {b : Nat} {o o' : Obj} (h : Lies w (L1 ++ (b, o) :: L2)) (hb : w'.heap[b]? = some o')
    (hk : ∀ i, i ≠ b → i < w.heap.size → w'.heap[i]? = w.heap[i]?) : Lies w' (L1 ++ (b, o') :: L2) := by
  have hn := h.nodup
  refine ⟨by simpa using hn, fun x hx => ?_⟩
  simp only [List.map_append, List.map_cons, List.nodup_append, List.nodup_cons] at hn
  obtain ⟨hn1, ⟨hn2, hn3⟩, hn4⟩ := hn
  rcases List.mem_append.1 hx with hx | hx
  · have hm : x ∈ L1 ++ (b, o) :: L2 := List.mem_append_left _ hx
    rw [hk x.1 (fun he => hn4 x.1 (List.mem_map_of_mem hx) b (by simp) he) (h.lt hm)]
    exact h.at_ x hm
  · rcases List.mem_cons.1 hx with rfl | hx
    · exact hb
    · have hm : x ∈ L1 ++ (b, o) :: L2 := List.mem_append_right _ (List.mem_cons_of_mem _ hx)
      rw [hk x.1 (fun he => hn2 (he ▸ List.mem_map_of_mem hx)) (h.lt hm)]
      exact h.at_ x hm

/-! ## Finding things in a symbolic heap -/
/-- Block b holds o (it may be shared: read only). -/
class Has (H : Heap) (b : Nat) (o : outParam Obj) : Prop where
  mem : ∀ L, Sep H L → (b, o) ∈ L

instance Has.tail {A : Hp} {H : Heap} {b : Nat} {o : Obj} [h : Has H b o] : Has (A :: H) b o :=
  ⟨fun L hL => by obtain ⟨L1, L2, rfl, _, h2⟩ := hL; exact List.mem_append_right _ (h.mem _ h2)⟩
instance Has.head {H : Heap} {b : Nat} {o : Obj} : Has (Pt b o :: H) b o :=
  ⟨fun L hL => by obtain ⟨L1, L2, rfl, h1, _⟩ := hL; rw [show L1 = [(b, o)] from h1]; simp⟩

theorem Has.get {G : Base} {w : World} {H : Heap} {b : Nat} {o : Obj} (h : Has H b o) (hs : Sat G w H) : w.heap[b]? = some o := by
  obtain ⟨_, L, hL, hl⟩ := hs
  exact hl.at_ _ (h.mem L hL)

/-- One assertion of a keyed kind, alone, and the heap round it. -/
class Foc (H : Heap) {ι α : Type} (K : ι → α → Hp) (i : ι) (a : outParam α) (C : outParam (Hp → Heap)) : Prop where
  foc : ∀ L, Sep H L → ∃ L1 M L2, L = L1 ++ (M ++ L2) ∧ K i a M ∧ ∀ (B : Hp) M', B M' → Sep (C B) (L1 ++ (M' ++ L2))

instance Foc.tail {A : Hp} {H : Heap} {ι α : Type} {K : ι → α → Hp} {i : ι} {a : α} {C : Hp → Heap} [h : Foc H K i a C] : Foc (A :: H) K i a (fun B => A :: C B) :=
  ⟨fun L hL => by
    obtain ⟨N1, N2, rfl, hA, h2⟩ := hL
    obtain ⟨L1, M, L2, rfl, hM, hB⟩ := h.foc _ h2
    refine ⟨N1 ++ L1, M, L2, by simp, hM, fun B M' hm => ⟨N1, L1 ++ (M' ++ L2), by simp, hA, hB B M' hm⟩⟩⟩
instance Foc.head {H : Heap} {ι α : Type} {K : ι → α → Hp} {i : ι} {a : α} : Foc (K i a :: H) K i a (fun B => B :: H) :=
  ⟨fun L hL => by
    obtain ⟨L1, L2, rfl, h1, h2⟩ := hL
    exact ⟨[], L1, L2, rfl, h1, fun B M' hm => ⟨M', L2, rfl, hm, h2⟩⟩⟩

/-- The focus may be exchanged. -/
theorem Foc.sat {G : Base} {w : World} {H : Heap} {ι α : Type} {K : ι → α → Hp} {i : ι} {a : α} {C : Hp → Heap} (h : Foc H K i a C) (hs : Sat G w H) (B : Hp) (hab : ∀ M, K i a M → B M) : Sat G w (C B) := by
  obtain ⟨hS, L, hL, hl⟩ := hs
  obtain ⟨L1, M, L2, rfl, hM, hB⟩ := h.foc _ hL
  exact ⟨hS, _, hB B M (hab M hM), hl⟩

theorem Foc.get {G : Base} {w : World} {H : Heap} {b : Nat} {o : Obj} {C : Hp → Heap} (h : Foc H Pt b o C) (hs : Sat G w H) : w.heap[b]? = some o := by
  obtain ⟨_, L, hL, hl⟩ := hs
  obtain ⟨L1, M, L2, rfl, hM, _⟩ := h.foc _ hL
  have hM' : M = [(b, o)] := hM
  subst hM'
  exact hl.at_ (b, o) (by simp)

/-- One block changes. -/
theorem Foc.change {G : Base} {w w' : World} {H : Heap} {b : Nat} {o o' : Obj} {C : Hp → Heap} (h : Foc H Pt b o C) (hs : Sat G w H) (hS : Same G w') (hb : w'.heap[b]? = some o')
    (hk : ∀ i, i ≠ b → i < w.heap.size → w'.heap[i]? = w.heap[i]?) : Sat G w' (C (Pt b o')) := by
  obtain ⟨_, L, hL, hl⟩ := hs
  obtain ⟨L1, M, L2, rfl, hM, hB⟩ := h.foc _ hL
  have hM' : M = [(b, o)] := hM
  subst hM'
  have := hB (Pt b o') [(b, o')] rfl
  exact ⟨hS, _, this, by simpa using Lies.change (by simpa using hl) hb hk⟩

/-! ## Frames -/
abbrev Tm := List (Nat × Value)
def look : Tm → Nat → Option Value
  | [], _ => none
  | (m, v) :: t, n => bif Nat.beq m n then some v else look t n

def evo (t : Tm) : Operand → Option Value
  | .tmp n => look t n
  | .const v => some v
  | .global g => some (.pointer (some ⟨g, 0, none⟩))
  | .func f => some (.func (.func f) #[] #[])

def evos (t : Tm) : List Operand → Option (List Value)
  | [] => some []
  | x :: xs => match evo t x, evos t xs with
    | some v, some vs => some (v :: vs)
    | _, _ => none

structure Fr (N : Nat) (t : Tm) (a : Act) : Prop where
  size : a.tmps.size = N
  defers : a.defers = []
  look : ∀ n v, look t n = some v → a.tmps[n]? = some v

/-- What a frame's operands are. -/
def Agree (t : Tm) (ρ : Operand → Value) : Prop := ∀ x v, evo t x = some v → ρ x = v

theorem Fr.agree {N : Nat} {t : Tm} {a : Act} (h : Fr N t a) : Agree t a.eval := by
  intro x v hx
  cases x with
  | tmp n => simp only [Act.eval, Array.getD_eq_getD_getElem?, h.look n v hx, Option.getD_some]
  | const u => exact Option.some.inj hx
  | global g => exact Option.some.inj hx
  | func f => exact Option.some.inj hx

def put (t : Tm) : Option Tmp → Value → Tm
  | none, _ => t
  | some d, v => (d, v) :: t

def fits (N : Nat) : Option Tmp → Bool
  | none => true
  | some d => Nat.blt d N

theorem Fr.put {N : Nat} {t : Tm} {a : Act} {d : Option Tmp} (h : Fr N t a) (hd : fits N d = true) (v : Value) : Fr N (put t d v) (a.put d v) := by
  cases d with
  | none => exact h
  | some d =>
    have hdN : d < N := by simpa [fits] using hd
    refine ⟨by simp [Act.put, h.size], h.defers, fun n u hn => ?_⟩
    simp only [Sx.put, Sx.look] at hn
    simp only [Act.put, Array.getElem?_setIfInBounds]
    by_cases e : d = n
    · subst e
      simp at hn
      subst hn
      simp [h.size, hdN]
    · have hb : Nat.beq d n = false := by
        cases hb : Nat.beq d n with
        | false => rfl
        | true => exact absurd (Nat.eq_of_beq_eq_true hb) e
      rw [hb] at hn
      rw [if_neg e]
      exact h.look n u hn

/-- A frame of which less is known. -/
def Sub (t' t : Tm) : Prop := ∀ n v, look t' n = some v → look t n = some v
theorem Fr.sub {N : Nat} {t t' : Tm} {a : Act} (h : Fr N t a) (hs : Sub t' t) : Fr N t' a := ⟨h.size, h.defers, fun n v hn => h.look n v (hs n v hn)⟩
theorem Sub.nil {t : Tm} : Sub [] t := fun _ _ h => by cases h
theorem Sub.cons {t t' : Tm} {n : Nat} {v : Value} (h : look t n = some v) (hs : Sub t' t) : Sub ((n, v) :: t') t := by
  intro m u hm
  simp only [look] at hm
  cases hb : Nat.beq n m with
  | true =>
    rw [hb] at hm
    obtain rfl := Nat.eq_of_beq_eq_true hb
    simp at hm
    rw [← hm]; exact h
  | false => rw [hb] at hm; exact hs m u hm
theorem Sub.refl {t : Tm} : Sub t t := fun _ _ h => h

end Go.Sx
namespace Go.Sx
open Go

section
variable (G : Base) (P : Program) (N : Nat)

/-- What a piece of code may end in, said of symbolic frames and heaps. -/
abbrev Post := Exit → Tm → Heap → Prop

def up (Q : Post) : Exit → Act → World → Prop := fun e a w => ∃ t H, Fr N t a ∧ Sat G w H ∧ Q e t H

structure W (c : Code) (Q : Post) (t : Tm) (H : Heap) : Prop where
  go : ∀ a w, Fr N t a → Sat G w H → Code.wp P c (up G N Q) a w

structure O (ops : Array Oper) (l : List Oper) (Q : Post) (t : Tm) (H : Heap) : Prop where
  go : ∀ a w, Fr N t a → Sat G w H → wpList P ops (up G N Q) l a w

def SeqQ (y : Code) (Q : Post) : Post := fun e t H => match e with
  | .normal => W G P N y Q t H
  | e => Q e t H

def BlkQ (id : Nat) (Q : Post) : Post := fun e t H => match e with
  | .exit id' => bif Nat.beq id' id then Q .normal t H else Q (.exit id') t H
  | e => Q e t H
end

section
variable {G : Base} {P : Program} {N : Nat} {Q : Post} {t : Tm} {H : Heap}

theorem up_mono {Q Q' : Post} (h : ∀ e t H, Q e t H → Q' e t H) {e : Exit} {a : Act} {w : World} (hu : up G N Q e a w) : up G N Q' e a w :=
  let ⟨t, H, h1, h2, h3⟩ := hu
  ⟨t, H, h1, h2, h _ _ _ h3⟩

theorem w_skip (h : Q .normal t H) : W G P N .skip Q t H := ⟨fun _ _ ha hw => wp_skip ⟨t, H, ha, hw, h⟩⟩
theorem w_exit {id : Nat} (h : Q (.exit id) t H) : W G P N (.exit id) Q t H := ⟨fun _ _ ha hw => wp_exit ⟨t, H, ha, hw, h⟩⟩
theorem w_ret (h : Q .ret t H) : W G P N .ret Q t H := ⟨fun _ _ ha hw => wp_ret ⟨t, H, ha, hw, h⟩⟩

theorem w_seq {x y : Code} (h : W G P N x (SeqQ G P N y Q) t H) : W G P N (.seq x y) Q t H :=
  ⟨fun a w ha hw => wp_seq (wp_mono (h.go a w ha hw) fun e a' w' hu => by
    obtain ⟨t', H', ha', hw', hq⟩ := hu
    cases e <;> first | exact hq.go a' w' ha' hw' | exact ⟨t', H', ha', hw', hq⟩)⟩

theorem w_block {id : Nat} {c : Code} (h : W G P N c (BlkQ id Q) t H) : W G P N (.block id c) Q t H :=
  ⟨fun a w ha hw => wp_block (wp_mono (h.go a w ha hw) fun e a' w' hu => by
    obtain ⟨t', H', ha', hw', hq⟩ := hu
    cases e with
    | exit id' =>
      simp only [BlkQ] at hq
      simp only [Exit.inBlock]
      cases hb : Nat.beq id' id with
      | true =>
        rw [hb] at hq
        rw [if_pos (Nat.eq_of_beq_eq_true hb)]
        exact ⟨t', H', ha', hw', hq⟩
      | false =>
        rw [hb] at hq
        rw [if_neg (fun e => by rw [e] at hb; exact absurd (Nat.beq_refl id) (by rw [hb]; simp))]
        exact ⟨t', H', ha', hw', hq⟩
    | _ => exact ⟨t', H', ha', hw', hq⟩)⟩

theorem w_if {c : Operand} {x y : Code} {b : Bool} (hc : evo t c = some (.bool b)) (ht : b = true → W G P N x Q t H) (hf : b = false → W G P N y Q t H) : W G P N (.cond c x y) Q t H :=
  ⟨fun a w ha hw => wp_cond (t := b) (ha.agree c _ hc) (by
    cases b with
    | true => exact (ht rfl).go a w ha hw
    | false => exact (hf rfl).go a w ha hw)⟩
theorem w_if_prop {c : Operand} {x y : Code} {p : Prop} [Decidable p] (hc : evo t c = some (.bool (decide p))) (ht : p → W G P N x Q t H) (hf : ¬ p → W G P N y Q t H) : W G P N (.cond c x y) Q t H :=
  w_if hc (fun h => ht (of_decide_eq_true h)) (fun h => hf (of_decide_eq_false h))
theorem w_if_true {c : Operand} {x y : Code} (hc : evo t c = some (.bool true)) (ht : W G P N x Q t H) : W G P N (.cond c x y) Q t H :=
  w_if hc (fun _ => ht) (fun h => by cases h)
theorem w_if_false {c : Operand} {x y : Code} (hc : evo t c = some (.bool false)) (ht : W G P N y Q t H) : W G P N (.cond c x y) Q t H :=
  w_if hc (fun h => by cases h) (fun _ => ht)

theorem w_region {id : Nat} {l : List Oper} (h : O G P N l.toArray l Q t H) : W G P N (.region id l.toArray false) Q t H :=
  ⟨fun a w ha hw => wp_region_lit (h.go a w ha hw)⟩

theorem o_nil {ops : Array Oper} (h : Q .normal t H) : O G P N ops [] Q t H := ⟨fun _ _ ha hw => wpList_nil ⟨t, H, ha, hw, h⟩⟩

/-- Less is kept. -/
theorem w_sub {c : Code} {t' : Tm} (hs : Sub t' t) (h : W G P N c Q t' H) : W G P N c Q t H := ⟨fun a w ha hw => h.go a w (ha.sub hs) hw⟩
theorem w_heap {c : Code} {H' : Heap} (hs : ∀ w, Sat G w H → Sat G w H') (h : W G P N c Q t H') : W G P N c Q t H := ⟨fun a w ha hw => h.go a w ha (hs w hw)⟩
theorem o_heap {ops : Array Oper} {l : List Oper} {H' : Heap} (hs : ∀ w, Sat G w H → Sat G w H') (h : O G P N ops l Q t H') : O G P N ops l Q t H := ⟨fun a w ha hw => h.go a w ha (hs w hw)⟩
theorem w_mono {c : Code} {Q' : Post} (h : W G P N c Q' t H) (hq : ∀ e t H, Q' e t H → Q e t H) : W G P N c Q t H := ⟨fun a w ha hw => wp_mono (h.go a w ha hw) fun _ _ _ hu => up_mono hq hu⟩

/-- Less of the heap. -/
def HSub (H H' : Heap) : Prop := ∀ L, Sep H L → ∃ L' M, Sep H' L' ∧ (L' ++ M).Perm L
theorem HSub.refl {H : Heap} : HSub H H := fun L h => ⟨L, [], h, by simp⟩
theorem HSub.trans {H H' H'' : Heap} (h : HSub H H') (h' : HSub H' H'') : HSub H H'' := fun L hL =>
  let ⟨L', M, h1, h2⟩ := h L hL
  let ⟨L'', M', h3, h4⟩ := h' L' h1
  ⟨L'', M' ++ M, h3, by rw [← List.append_assoc]; exact (h4.append_right M).trans h2⟩
theorem HSub.drop {A : Hp} {H H' : Heap} (h : HSub H H') : HSub (A :: H) H' := fun L hL => by
  obtain ⟨L1, L2, rfl, _, h2⟩ := hL
  obtain ⟨L', M, h3, h4⟩ := h L2 h2
  exact ⟨L', M ++ L1, h3, by rw [← List.append_assoc]; exact (h4.append_right L1).trans List.perm_append_comm⟩
theorem HSub.imp {A B : Hp} {H H' : Heap} (hab : ∀ L, A L → B L) (h : HSub H H') : HSub (A :: H) (B :: H') := fun L hL => by
  obtain ⟨L1, L2, rfl, h1, h2⟩ := hL
  obtain ⟨L', M, h3, h4⟩ := h L2 h2
  exact ⟨L1 ++ L', M, ⟨L1, L', rfl, hab _ h1, h3⟩, by rw [List.append_assoc]; exact h4.append_left L1⟩
theorem HSub.keep {A : Hp} {H H' : Heap} (h : HSub H H') : HSub (A :: H) (A :: H') := HSub.imp (fun _ h => h) h
/-- An assertion that takes no memory may be added. -/
theorem HSub.add {A : Hp} {H H' : Heap} (hA : A []) (h : HSub H H') : HSub H (A :: H') := fun L hL => by
  obtain ⟨L', M, h3, h4⟩ := h L hL
  exact ⟨L', M, ⟨[], L', rfl, hA, h3⟩, h4⟩
theorem HSub.sat {H H' : Heap} (h : HSub H H') {w : World} (hw : Sat G w H) : Sat G w H' := by
  obtain ⟨hs, L, hL, hl⟩ := hw
  obtain ⟨L', M, h1, h2⟩ := h L hL
  refine ⟨hs, L', h1, ?_, fun x hx => hl.at_ x (h2.mem_iff.1 (List.mem_append_left M hx))⟩
  have h3 := ((h2.map (·.1)).nodup_iff).2 hl.nodup
  rw [List.map_append] at h3
  exact (List.nodup_append.1 h3).1

def LoopQ {α : Type} (I : α → Prop) (fr : α → Tm) (hp : α → Heap) (μ : α → Nat) (x : α) (Q : Post) : Post := fun e t H => match e with
  | .normal => ∃ y, I y ∧ μ y < μ x ∧ Sub (fr y) t ∧ HSub H (hp y)
  | e => Q e t H

/-- A loop: a ghost x tells the frame (what is known of it) and the heap at the head of a round. -/
theorem w_loop {c : Code} (α : Type) (I : α → Prop) (fr : α → Tm) (hp : α → Heap) (μ : α → Nat) (x0 : α) (h0 : I x0) (hs : Sub (fr x0) t) (hh : HSub H (hp x0))
    (round : ∀ x, I x → W G P N c (LoopQ I fr hp μ x Q) (fr x) (hp x)) : W G P N (.loop c) Q t H := by
  refine ⟨fun a w ha hw => ?_⟩
  intro b k cs
  have key : ∀ n x, μ x = n → I x → ∀ a w, Fr N (fr x) a → Sat G w (hp x) →
      ∃ e a' w', up G N Q e a' w' ∧ Arrives P (lone (b.at a (.code c :: .inLoop c :: k)) cs w) b k cs e a' w' := by
    intro n
    induction n using Nat.strongRecOn with
    | _ n ih =>
      intro x hn hI a w ha hw
      obtain ⟨e, a₁, w₁, hq, harr⟩ := (round x hI).go a w ha hw b (.inLoop c :: k) cs
      obtain ⟨t', H', ha', hw', hq⟩ := hq
      cases e with
      | normal =>
        obtain ⟨y, hy, hlt, hsub, hsat⟩ := hq
        obtain ⟨e₂, a₂, w₂, hq₂, harr₂⟩ := ih (μ y) (hn ▸ hlt) y rfl hy a₁ w₁ (ha'.sub hsub) (hsat.sat hw')
        exact ⟨e₂, a₂, w₂, hq₂, .of_steps (Steps.trans harr (.one step_inLoop)) harr₂⟩
      | exit id => exact ⟨_, a₁, w₁, ⟨t', H', ha', hw', hq⟩, .pass (x := .inLoop c) rfl (fun _ _ => .inl (by simp)) harr⟩
      | goto l => exact ⟨_, a₁, w₁, ⟨t', H', ha', hw', hq⟩, .pass (x := .inLoop c) rfl (fun _ _ => .inl (by simp)) harr⟩
      | ret => exact ⟨_, a₁, w₁, ⟨t', H', ha', hw', hq⟩, .pass (x := .inLoop c) rfl (fun _ _ => .inl (by simp)) harr⟩
      | panic ch => exact ⟨_, a₁, w₁, ⟨t', H', ha', hw', hq⟩, .pass (x := .inLoop c) rfl (fun _ _ => .inl (by simp)) harr⟩
      | outgrown => exact ⟨_, a₁, w₁, ⟨t', H', ha', hw', hq⟩, .pass (x := .inLoop c) rfl (fun _ _ => .inl (by simp)) harr⟩
  obtain ⟨e, a', w', hq, harr⟩ := key _ x0 rfl h0 a w (ha.sub hs) (hh.sat hw)
  exact ⟨e, a', w', hq, .of_steps (.one step_loop) harr⟩

theorem sq_n {y : Code} (h : W G P N y Q t H) : SeqQ G P N y Q .normal t H := h
theorem sq_e {y : Code} {id : Nat} (h : Q (.exit id) t H) : SeqQ G P N y Q (.exit id) t H := h
theorem sq_r {y : Code} (h : Q .ret t H) : SeqQ G P N y Q .ret t H := h
theorem bk_n {id : Nat} (h : Q .normal t H) : BlkQ id Q .normal t H := h
theorem bk_r {id : Nat} (h : Q .ret t H) : BlkQ id Q .ret t H := h
theorem bk_h {id : Nat} (h : Q .normal t H) : BlkQ id Q (.exit id) t H := by
  show (bif Nat.beq id id then Q .normal t H else Q (.exit id) t H)
  rw [show Nat.beq id id = true from Nat.beq_refl id]; exact h
theorem bk_m {id id' : Nat} (hne : Nat.beq id' id = false) (h : Q (.exit id') t H) : BlkQ id Q (.exit id') t H := by
  show (bif Nat.beq id' id then Q .normal t H else Q (.exit id') t H)
  rw [hne]; exact h
section
variable {α : Type} {I : α → Prop} {fr : α → Tm} {hp : α → Heap} {μ : α → Nat} {x : α}
theorem lq_n (y : α) (h1 : I y) (h2 : μ y < μ x) (h3 : Sub (fr y) t) (h4 : HSub H (hp y)) : LoopQ I fr hp μ x Q .normal t H := ⟨y, h1, h2, h3, h4⟩
theorem lq_e {id : Nat} (h : Q (.exit id) t H) : LoopQ I fr hp μ x Q (.exit id) t H := h
theorem lq_r (h : Q .ret t H) : LoopQ I fr hp μ x Q .ret t H := h
end

/-! ## Contracts -/
/-- The call of f, handed args in a heap H, returns a value and a heap of which K holds (or asks for more memory than there is). -/
structure SC (G : Base) (P : Program) (f : FuncId) (args : List Value) (H : Heap) (K : Value → Heap → Prop) : Prop where
  enter : ∀ (as : Array Value) w, (callFunc f as).run P w = .ok (.enter f as) w
  call : ∀ w, Sat G w H → Calls P f args.toArray w fun e w' => match e with
    | .returned v => ∃ H', Sat G w' H' ∧ K v H'
    | _ => False

theorem SC.mono {f : FuncId} {args : List Value} {K K' : Value → Heap → Prop} (h : SC G P f args H K) (hk : ∀ v H', K v H' → K' v H') : SC G P f args H K' :=
  ⟨h.enter, fun w hw => (h.call w hw).mono fun e w' he => by
    cases e with
    | returned v => obtain ⟨H', h1, h2⟩ := he; exact ⟨H', h1, hk _ _ h2⟩
    | _ => exact he.elim⟩
theorem SC.heap {f : FuncId} {args : List Value} {K : Value → Heap → Prop} {H' : Heap} (h : SC G P f args H' K) (hs : ∀ w, Sat G w H → Sat G w H') : SC G P f args H K :=
  ⟨h.enter, fun w hw => h.call w (hs w hw)⟩

/-! ## Operations -/
/-- An operation that yields one value and leaves the heap alone. -/
def Ev (G : Base) (P : Program) (o : Oper) (t : Tm) (H : Heap) (v : Value) : Prop :=
  ∀ ρ, Agree t ρ → ∀ w, Sat G w H → (execOp ρ o).run P w = .ok (.value v) w

def Does (G : Base) (P : Program) (R : Value → Heap → Prop) : Result Next → Prop
  | .ok (.value v) w' => ∃ H', Sat G w' H' ∧ R v H'
  | .ok .skip w' => ∃ H', Sat G w' H' ∧ R undef H'
  | .ok (.enter f args) w' => Calls P f args w' fun e w'' => match e with
    | .returned v => ∃ H', Sat G w'' H' ∧ R v H'
    | _ => False
  | _ => False

/-- An operation in general. -/
def St (G : Base) (P : Program) (o : Oper) (t : Tm) (H : Heap) (R : Value → Heap → Prop) : Prop :=
  ∀ ρ, Agree t ρ → ∀ w, Sat G w H → Does G P R ((execOp ρ o).run P w)

theorem Ev.st {o : Oper} {v : Value} (h : Ev G P o t H v) : St G P o t H (fun u H' => u = v ∧ H' = H) :=
  fun ρ hρ w hw => by rw [h ρ hρ w hw]; exact ⟨H, hw, rfl, rfl⟩

theorem Does.wp {o : Oper} {a : Act} {w : World} {R : Value → Heap → Prop} {next : Act → World → Prop} (h : Does G P R ((execOp a.eval o).run P w))
    (hn : ∀ v w' H', Sat G w' H' → R v H' → next (a.put o.dst v) w') : o.wp P a w next (up G N Q) := by
  unfold Oper.wp
  generalize (execOp a.eval o).run P w = r at *
  cases r with
  | ok n w' =>
    cases n <;> simp only [Does] at h <;> simp only [Oper.upon]
    case value v => obtain ⟨H', h1, h2⟩ := h; exact hn _ _ _ h1 h2
    case skip => obtain ⟨H', h1, h2⟩ := h; exact hn _ _ _ h1 h2
    case enter f args =>
      refine h.mono fun e w'' he => ?_
      cases e with
      | returned v => obtain ⟨H', h1, h2⟩ := he; exact hn _ _ _ h1 h2
      | _ => exact he.elim
  | halt x w' => simp only [Does] at h

theorem o_st {ops : Array Oper} {dst : Option Tmp} {op : Op} {ty : TypeId} {pos : String} {after : Array Edge} {l : List Oper} {R : Value → Heap → Prop}
    (h : St G P ⟨dst, op, ty, pos, after, none⟩ t H R) (hd : fits N dst = true) (hk : ∀ v H', R v H' → O G P N ops l Q (put t dst v) H') :
    O G P N ops (⟨dst, op, ty, pos, after, none⟩ :: l) Q t H := by
  refine ⟨fun a w ha hw => ?_⟩
  unfold wpList
  rw [if_pos (by simp [Region.wanted])]
  exact .inl ((h a.eval ha.agree w hw).wp fun v w' H' hw' hr => (hk v H' hr).go _ _ (ha.put hd v) hw')

theorem o_ev {ops : Array Oper} {dst : Option Tmp} {op : Op} {ty : TypeId} {pos : String} {after : Array Edge} {l : List Oper} {v : Value}
    (h : Ev G P ⟨dst, op, ty, pos, after, none⟩ t H v) (hd : fits N dst = true) (hk : O G P N ops l Q (put t dst v) H) :
    O G P N ops (⟨dst, op, ty, pos, after, none⟩ :: l) Q t H :=
  o_st h.st hd (fun _ _ ⟨e1, e2⟩ => by rw [e1, e2]; exact hk)

theorem wanted_of {ops : Array Oper} {o : Oper} {j d : Nat} {want b : Bool} {a : Act} (ha : Fr N t a) (hg : o.guard = some (j, want)) (hj : (ops[j]?).bind (·.dst) = some d) (hb : look t d = some (.bool b)) :
    Region.wanted o (yielded ops a.tmps) = (b == want) := by
  have h1 : a.tmps[d]? = some (.bool b) := ha.look _ _ hb
  have h2 : yielded ops a.tmps j = some b := by
    unfold yielded
    rw [hj]
    simp [h1]
  unfold Region.wanted
  rw [hg]
  simp only [h2]
  cases b <;> cases want <;> rfl

/-- A guarded operation that yields a value: where the guard is false its slot holds nothing of use. -/
theorem o_guard {ops : Array Oper} {dst : Option Tmp} {op : Op} {ty : TypeId} {pos : String} {after : Array Edge} {l : List Oper} {v : Value} {j d : Nat} {want b : Bool}
    (hj : (ops[j]?).bind (·.dst) = some d) (hb : look t d = some (.bool b))
    (h : b = want → Ev G P ⟨dst, op, ty, pos, after, some (j, want)⟩ t H v) (hd : fits N dst = true) (hk : ∀ u, (b = want → u = v) → O G P N ops l Q (put t dst u) H) :
    O G P N ops (⟨dst, op, ty, pos, after, some (j, want)⟩ :: l) Q t H := by
  refine ⟨fun a w ha hw => ?_⟩
  unfold wpList
  rw [wanted_of (o := ⟨dst, op, ty, pos, after, some (j, want)⟩) ha rfl hj hb]
  by_cases e : b = want
  · rw [if_pos (by simp [e])]
    refine .inl (Does.wp (G := G) (R := fun u H' => u = v ∧ H' = H) ?_ ?_)
    · rw [h e a.eval ha.agree w hw]; exact ⟨H, hw, rfl, rfl⟩
    · rintro u w' H' hw' ⟨rfl, rfl⟩
      exact (hk u (fun _ => rfl)).go _ _ (ha.put hd u) hw'
  · rw [if_neg (by simp [e])]
    exact (hk undef (fun h => absurd h e)).go _ _ (ha.put hd undef) hw

/-- A guarded operation in general: two ways. -/
theorem o_guard_st {ops : Array Oper} {dst : Option Tmp} {op : Op} {ty : TypeId} {pos : String} {after : Array Edge} {l : List Oper} {R : Value → Heap → Prop} {j d : Nat} {want b : Bool}
    (hj : (ops[j]?).bind (·.dst) = some d) (hb : look t d = some (.bool b))
    (h : b = want → St G P ⟨dst, op, ty, pos, after, some (j, want)⟩ t H R) (hd : fits N dst = true)
    (hk : b = want → ∀ v H', R v H' → O G P N ops l Q (put t dst v) H') (hn : b ≠ want → O G P N ops l Q (put t dst undef) H) :
    O G P N ops (⟨dst, op, ty, pos, after, some (j, want)⟩ :: l) Q t H := by
  refine ⟨fun a w ha hw => ?_⟩
  unfold wpList
  rw [wanted_of (o := ⟨dst, op, ty, pos, after, some (j, want)⟩) ha rfl hj hb]
  by_cases e : b = want
  · rw [if_pos (by simp [e])]
    exact .inl ((h e a.eval ha.agree w hw).wp fun v w' H' hw' hr => (hk e v H' hr).go _ _ (ha.put hd v) hw')
  · rw [if_neg (by simp [e])]
    exact (hn e).go _ _ (ha.put hd undef) hw

/-! ## The call -/
theorem evos_map {t : Tm} {ρ : Operand → Value} (hρ : Agree t ρ) : ∀ {xs : List Operand} {vs : List Value}, evos t xs = some vs → xs.map ρ = vs
  | [], _, h => by cases h; rfl
  | x :: xs, vs, h => by
    simp only [evos] at h
    split at h
    · rename_i v us h1 h2
      cases h
      rw [List.map_cons, hρ x v h1, evos_map hρ h2]
    · cases h

theorem st_call {dst : Option Tmp} {f : FuncId} {xs : List Operand} {ats : Array TypeId} {ty : TypeId} {pos : String} {after : Array Edge} {g : Option (Nat × Bool)} {vs : List Value} {K : Value → Heap → Prop}
    (hx : evos t xs = some vs) (hc : SC G P f vs H K) : St G P ⟨dst, .call ⟨.value (.func f), xs.toArray, ats⟩, ty, pos, after, g⟩ t H K := by
  intro ρ hρ w hw
  have h1 : ρ (.func f) = .func (.func f) #[] #[] := hρ _ _ rfl
  have h2 : xs.toArray.map ρ = vs.toArray := by rw [List.map_toArray, evos_map hρ hx]
  have : (execOp ρ ⟨dst, .call ⟨.value (.func f), xs.toArray, ats⟩, ty, pos, after, g⟩).run P w = .ok (.enter f vs.toArray) w := by
    simp only [execOp, resolve, h1, h2, Deferred.ofValue, Sem.run_bind, Sem.run_pure, Result.andThen_ok]
    simp only [invoke, Array.append_empty, Array.empty_append]
    exact hc.enter _ _
  rw [this]
  exact hc.call w hw

theorem o_call {ops : Array Oper} {dst : Option Tmp} {f : FuncId} {xs : List Operand} {ats : Array TypeId} {ty : TypeId} {pos : String} {after : Array Edge} {l : List Oper} {vs : List Value} {K : Value → Heap → Prop}
    (hx : evos t xs = some vs) (hc : SC G P f vs H K) (hd : fits N dst = true) (hk : ∀ v H', K v H' → O G P N ops l Q (put t dst v) H') :
    O G P N ops (⟨dst, .call ⟨.value (.func f), xs.toArray, ats⟩, ty, pos, after, none⟩ :: l) Q t H := o_st (st_call hx hc) hd hk

/-! ## A function's body -/
/-- The frame at a call's beginning. -/
def envOf : Nat → List Value → Tm
  | _, [] => []
  | k, v :: vs => (k, v) :: envOf (k + 1) vs
theorem look_envOf : ∀ (args : List Value) (k n : Nat) (v : Value), look (envOf k args) n = some v → k ≤ n ∧ args[n - k]? = some v := by
  intro args
  induction args with
  | nil => intro k n v h; cases h
  | cons a as ih =>
    intro k n v h
    simp only [envOf, look] at h
    cases hb : Nat.beq k n with
    | true =>
      obtain rfl := Nat.eq_of_beq_eq_true hb
      rw [hb] at h
      simp at h
      exact ⟨Nat.le_refl _, by simp [h]⟩
    | false =>
      rw [hb] at h
      obtain ⟨h1, h2⟩ := ih (k + 1) n v h
      refine ⟨by omega, ?_⟩
      rw [show n - k = (n - (k + 1)) + 1 by omega, List.getElem?_cons_succ]
      exact h2

def ResQ (P : Program) (fn : Func) (K : Value → Heap → Prop) : Post := fun e t H => (e = .normal ∨ e = .ret) ∧ ∃ v, K v H ∧ ∀ G N a w, Fr N t a → Sat G w H → (results fn a.tmps).run P w = .ok v w

theorem sc_intro {f : FuncId} {fn : Func} {c : Code} {args : List Value} {K : Value → Heap → Prop} (hf : P.funcs[f]? = some fn) (hb : fn.body = some c) (hn : (fn.name == "runtime.NumGoroutine") = false)
    (t0 : Tm) (ht : ∀ n v, look t0 n = some v → args[n]? = some v) (hle : args.length ≤ fn.ntmps)
    (h : W G P fn.ntmps c (ResQ P fn K) t0 H) : SC G P f args H K := by
  refine ⟨fun as w => ?_, fun w hw => ?_⟩
  · have hn' : ¬ fn.name = "runtime.NumGoroutine" := by simpa using hn
    simp [callFunc, hf, hb, hn']
  · refine calls_of_wp hf hb (wp_mono (h.go _ w ?_ hw) ?_)
    · refine ⟨by simp; omega, rfl, fun n v hv => ?_⟩
      have := ht n v hv
      have hlt : n < args.length := (List.getElem?_eq_some_iff.1 this).1
      rw [Array.getElem?_append_left (by simpa using hlt)]
      simpa using this
    · intro e a' w' hu
      obtain ⟨t', H', ha', hw', he, v, hv, hr⟩ := hu
      rcases he with rfl | rfl
      · exact ⟨ha'.defers, v, hr _ _ _ _ ha' hw', H', hw', hv⟩
      · exact ⟨ha'.defers, v, hr _ _ _ _ ha' hw', H', hw', hv⟩

/-- A contract, out of a walk of the body. -/
theorem sc_walk {f : FuncId} {fn : Func} {c : Code} {args : List Value} {K : Value → Heap → Prop} {N : Nat} (hf : P.funcs[f]? = some fn) (hb : fn.body = some c) (hN : fn.ntmps = N) (hn : (fn.name == "runtime.NumGoroutine") = false)
    (hle : args.length ≤ N) (h : W G P N c (ResQ P fn K) (envOf 0 args) H) : SC G P f args H K := by
  subst hN
  exact sc_intro hf hb hn (envOf 0 args) (fun n v hv => (look_envOf args 0 n v hv).2) hle h
end
end Go.Sx
