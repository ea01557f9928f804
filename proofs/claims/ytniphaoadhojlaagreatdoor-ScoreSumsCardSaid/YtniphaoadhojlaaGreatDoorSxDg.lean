import Derived.Test.YtniphaoadhojlaaGreatDoorSxX
import Derived.Recover
set_option linter.all false
namespace Go.Sx
open Go

/-! ## A function that defers: the list of what is deferred stays -/
theorem put_more (a : Act) (ds : List Deferred) (dst : Option Tmp) (v : Value) : ({ a with defers := a.defers ++ ds } : Act).put dst v = { a.put dst v with defers := (a.put dst v).defers ++ ds } := by cases dst <;> rfl
theorem wpl_more {P : Program} {ops : Array Oper} {Q : Exit → Act → World → Prop} (ds : List Deferred) : ∀ (l : List Oper) (a : Act) (w : World), wpList P ops (fun e a' w' => Q e { a' with defers := a'.defers ++ ds } w') l a w → wpList P ops Q l { a with defers := a.defers ++ ds } w
  | [], _, _, h => h
  | o :: l, a, w, h => by
    have ih := wpl_more (P := P) (ops := ops) (Q := Q) ds l
    unfold wpList at h ⊢
    by_cases hw : Region.wanted o (yielded ops a.tmps) = true
    · rw [if_pos hw] at h
      rw [if_pos (by exact hw)]
      rcases h with h | ⟨h, a0, w0, hq⟩
      · left
        change o.upon P a _ _ ((execOp a.eval o).run P w) at h
        show o.upon P { a with defers := a.defers ++ ds } _ _ ((execOp a.eval o).run P w)
        generalize (execOp a.eval o).run P w = r at h ⊢
        unfold Oper.upon at h ⊢
        split at h
        · rw [put_more]; exact ih _ _ h
        · rw [put_more]; exact ih _ _ h
        · rename_i d w'
          have := put_more { a with defers := d :: a.defers } ds o.dst undef
          simp only at this ⊢
          rw [show (d :: (a.defers ++ ds)) = (d :: a.defers) ++ ds from rfl, this]; exact ih _ _ h
        · exact Calls.mono h fun e w' he => by
            cases e with
            | returned v => simp only at he ⊢; rw [put_more]; exact ih _ _ he
            | panicked chain => exact he
            | outgrown => obtain ⟨a0, w0, hq⟩ := he; exact ⟨_, w0, hq⟩
        · exact Rows.mono h fun v w' he => by rw [put_more]; exact ih _ _ he
        · exact h
        · exact h.elim
      · exact .inr ⟨h, _, w0, hq⟩
    · rw [if_neg hw] at h
      rw [if_neg (by exact hw), put_more]
      exact ih _ _ h
theorem wpl_mono {P : Program} {ops : Array Oper} {Q Q' : Exit → Act → World → Prop} (hq : ∀ e a w, Q e a w → Q' e a w) : ∀ (l : List Oper) (a : Act) (w : World), wpList P ops Q l a w → wpList P ops Q' l a w
  | [], _, _, h => hq _ _ _ h
  | o :: l, a, w, h => by
    have ih := wpl_mono (P := P) (ops := ops) hq l
    unfold wpList at h ⊢
    by_cases hw : Region.wanted o (yielded ops a.tmps) = true
    · rw [if_pos hw] at h ⊢
      rcases h with h | ⟨h, a0, w0, hq0⟩
      · left
        change o.upon P a _ _ ((execOp a.eval o).run P w) at h
        show o.upon P a _ _ ((execOp a.eval o).run P w)
        generalize (execOp a.eval o).run P w = r at h ⊢
        unfold Oper.upon at h ⊢
        split at h
        · exact ih _ _ h
        · exact ih _ _ h
        · exact ih _ _ h
        · exact Calls.mono h fun e w' he => by
            cases e with
            | returned v => exact ih _ _ he
            | panicked chain => exact hq _ _ _ he
            | outgrown => obtain ⟨a0, w0, hq0⟩ := he; exact ⟨_, w0, hq _ _ _ hq0⟩
        · exact Rows.mono h fun v w' he => ih _ _ he
        · exact hq _ _ _ h
        · exact h.elim
      · exact .inr ⟨h, _, w0, hq _ _ _ hq0⟩
    · rw [if_neg hw] at h ⊢
      exact ih _ _ h

/-! ## Code behind a defer: the frame but for what is deferred -/
section
variable (G : Base) (P : Program) (N : Nat) (ds : List Deferred)
def upD (Q : Post) : Exit → Act → World → Prop := fun e a w => ∃ t H a0, Fr N t a0 ∧ a = { a0 with defers := ds } ∧ Sat G w H ∧ Q e t H
structure WD (c : Code) (Q : Post) (t : Tm) (H : Heap) : Prop where
  go : ∀ a w, Fr N t a → Sat G w H → Code.wp P c (upD G N ds Q) { a with defers := ds } w
def SeqD (y : Code) (Q : Post) : Post := fun e t H => match e with
  | .normal => WD G P N ds y Q t H
  | e => Q e t H
end
section
variable {G : Base} {P : Program} {N : Nat} {ds : List Deferred} {Q : Post} {t : Tm} {H : Heap}
theorem D.upm {Q Q' : Post} (h : ∀ e t H, Q e t H → Q' e t H) {e : Exit} {a : Act} {w : World} (hu : upD G N ds Q e a w) : upD G N ds Q' e a w :=
  let ⟨t, H, a0, h1, h2, h3, h4⟩ := hu
  ⟨t, H, a0, h1, h2, h3, h _ _ _ h4⟩
theorem D.wk_ (h : Q .normal t H) : WD G P N ds .skip Q t H := ⟨fun a _ ha hw => wp_skip ⟨t, H, a, ha, rfl, hw, h⟩⟩
theorem D.we_ {id : Nat} (h : Q (.exit id) t H) : WD G P N ds (.exit id) Q t H := ⟨fun a _ ha hw => wp_exit ⟨t, H, a, ha, rfl, hw, h⟩⟩
theorem D.wt_ (h : Q .ret t H) : WD G P N ds .ret Q t H := ⟨fun a _ ha hw => wp_ret ⟨t, H, a, ha, rfl, hw, h⟩⟩
theorem D.ws_ {x y : Code} (h : WD G P N ds x (SeqD G P N ds y Q) t H) : WD G P N ds (.seq x y) Q t H :=
  ⟨fun a w ha hw => wp_seq (wp_mono (h.go a w ha hw) fun e a' w' hu => by
    obtain ⟨t', H', a0, ha', rfl, hw', hq⟩ := hu
    cases e <;> first | exact hq.go a0 w' ha' hw' | exact ⟨t', H', a0, ha', rfl, hw', hq⟩)⟩
theorem D.wb_ {id : Nat} {c : Code} (h : WD G P N ds c (BlkQ id Q) t H) : WD G P N ds (.block id c) Q t H :=
  ⟨fun a w ha hw => wp_block (wp_mono (h.go a w ha hw) fun e a' w' hu => by
    obtain ⟨t', H', a0, ha', rfl, hw', hq⟩ := hu
    cases e with
    | exit id' =>
      simp only [BlkQ] at hq
      simp only [Exit.inBlock]
      cases hb : Nat.beq id' id with
      | true =>
        rw [hb] at hq
        rw [if_pos (Nat.eq_of_beq_eq_true hb)]
        exact ⟨t', H', a0, ha', rfl, hw', hq⟩
      | false =>
        rw [hb] at hq
        rw [if_neg (fun e => by rw [e] at hb; exact absurd (Nat.beq_refl id) (by rw [hb]; simp))]
        exact ⟨t', H', a0, ha', rfl, hw', hq⟩
    | _ => exact ⟨t', H', a0, ha', rfl, hw', hq⟩)⟩
theorem D.eval {N : Nat} {t : Tm} {a : Act} (ha : Fr N t a) (ds : List Deferred) {x : Operand} {v : Value} (h : evo t x = some v) : ({ a with defers := ds } : Act).eval x = v := ha.agree x v h
theorem D.w_if {c : Operand} {x y : Code} {b : Bool} (hc : evo t c = some (.bool b)) (ht : b = true → WD G P N ds x Q t H) (hf : b = false → WD G P N ds y Q t H) : WD G P N ds (.cond c x y) Q t H :=
  ⟨fun a w ha hw => wp_cond (t := b) (D.eval ha ds hc) (by
    cases b with
    | true => exact (ht rfl).go a w ha hw
    | false => exact (hf rfl).go a w ha hw)⟩
theorem D.wr_ {id : Nat} {l : List Oper} (h : O G P N l.toArray l Q t H) : WD G P N ds (.region id l.toArray false) Q t H :=
  ⟨fun a w ha hw => by
    have e : ({ a with defers := ds } : Act) = { a with defers := a.defers ++ ds } := by rw [ha.defers, List.nil_append]
    rw [e]
    refine wp_region_lit (wpl_more ds l a w (wpl_mono ?_ _ _ _ (h.go a w ha hw)))
    rintro e a' w' ⟨t', H', ha', hw', hq⟩
    exact ⟨t', H', a', ha', by rw [ha'.defers, List.nil_append], hw', hq⟩⟩
theorem D.w_sub {c : Code} {t' : Tm} (hs : Sub t' t) (h : WD G P N ds c Q t' H) : WD G P N ds c Q t H := ⟨fun a w ha hw => h.go a w (ha.sub hs) hw⟩
theorem D.w_hsub {c : Code} {H' : Heap} (hs : HSub H H') (h : WD G P N ds c Q t H') : WD G P N ds c Q t H := ⟨fun a w ha hw => h.go a w ha (hs.sat hw)⟩
theorem D.w_loop {c : Code} (α : Type) (I : α → Prop) (fr : α → Tm) (hp : α → Heap) (μ : α → Nat) (x0 : α) (h0 : I x0) (hs : Sub (fr x0) t) (hh : HSub H (hp x0))
    (round : ∀ x, I x → WD G P N ds c (LoopQ I fr hp μ x Q) (fr x) (hp x)) : WD G P N ds (.loop c) Q t H := by
  refine ⟨fun a w ha hw => ?_⟩
  intro b k cs
  have key : ∀ n x, μ x = n → I x → ∀ a w, Fr N (fr x) a → Sat G w (hp x) →
      ∃ e a' w', upD G N ds Q e a' w' ∧ Arrives P (lone (b.at { a with defers := ds } (.code c :: .inLoop c :: k)) cs w) b k cs e a' w' := by
    intro n
    induction n using Nat.strongRecOn with
    | _ n ih =>
      intro x hn hI a w ha hw
      obtain ⟨e, a₁, w₁, hq, harr⟩ := (round x hI).go a w ha hw b (.inLoop c :: k) cs
      obtain ⟨t', H', a0, ha', rfl, hw', hq⟩ := hq
      cases e with
      | normal =>
        obtain ⟨y, hy, hlt, hsub, hsat⟩ := hq
        obtain ⟨e₂, a₂, w₂, hq₂, harr₂⟩ := ih (μ y) (hn ▸ hlt) y rfl hy a0 w₁ (ha'.sub hsub) (hsat.sat hw')
        exact ⟨e₂, a₂, w₂, hq₂, .of_steps (Steps.trans harr (.one step_inLoop)) harr₂⟩
      | exit id => exact ⟨_, _, w₁, ⟨t', H', a0, ha', rfl, hw', hq⟩, .pass (x := .inLoop c) rfl (fun _ _ => .inl (by simp)) harr⟩
      | goto l => exact ⟨_, _, w₁, ⟨t', H', a0, ha', rfl, hw', hq⟩, .pass (x := .inLoop c) rfl (fun _ _ => .inl (by simp)) harr⟩
      | ret => exact ⟨_, _, w₁, ⟨t', H', a0, ha', rfl, hw', hq⟩, .pass (x := .inLoop c) rfl (fun _ _ => .inl (by simp)) harr⟩
      | panic ch => exact ⟨_, _, w₁, ⟨t', H', a0, ha', rfl, hw', hq⟩, .pass (x := .inLoop c) rfl (fun _ _ => .inl (by simp)) harr⟩
      | outgrown => exact ⟨_, _, w₁, ⟨t', H', a0, ha', rfl, hw', hq⟩, .pass (x := .inLoop c) rfl (fun _ _ => .inl (by simp)) harr⟩
  obtain ⟨e, a', w', hq, harr⟩ := key _ x0 rfl h0 a w (ha.sub hs) (hh.sat hw)
  exact ⟨e, a', w', hq, .of_steps (.one step_loop) harr⟩
-- short forms
theorem D.wi_ {c : Operand} {x y : Code} {b : Bool} {p q : Prop} (hc : evo t c = some (.bool b) := by exact rfl) (n1 : b = true → p := by intro h; first | (simp only [decide_eq_true_eq, decide_eq_false_iff_not, Bool.not_eq_true', Bool.not_eq_false', Bool.and_eq_true, Bool.or_eq_true, Bool.or_eq_false_iff, Bool.and_eq_false_iff, ne_eq, Decidable.not_not] at h; exact h) | exact h) (n2 : b = false → q := by intro h; first | (simp only [decide_eq_true_eq, decide_eq_false_iff_not, Bool.not_eq_true', Bool.not_eq_false', Bool.and_eq_true, Bool.or_eq_true, Bool.or_eq_false_iff, Bool.and_eq_false_iff, ne_eq, Decidable.not_not] at h; exact h) | exact h)
    (k : p → WD G P N ds x Q t H) (m : q → WD G P N ds y Q t H) : WD G P N ds (.cond c x y) Q t H := D.w_if hc (fun h => k (n1 h)) (fun h => m (n2 h))
theorem D.ift {c : Operand} {x y : Code} (hc : evo t c = some (.bool true) := by exact rfl) (k : WD G P N ds x Q t H) : WD G P N ds (.cond c x y) Q t H := D.w_if hc (fun _ => k) (fun h => by cases h)
theorem D.iff_ {c : Operand} {x y : Code} (hc : evo t c = some (.bool false) := by exact rfl) (k : WD G P N ds y Q t H) : WD G P N ds (.cond c x y) Q t H := D.w_if hc (fun h => by cases h) (fun _ => k)
theorem D.qn_ {y : Code} (h : WD G P N ds y Q t H) : SeqD G P N ds y Q .normal t H := h
theorem D.qe_ {y : Code} {id : Nat} (h : Q (.exit id) t H) : SeqD G P N ds y Q (.exit id) t H := h
theorem D.qr_ {y : Code} (h : Q .ret t H) : SeqD G P N ds y Q .ret t H := h
theorem D.wl2_ {c : Code} (α : Type) (I : α → Prop) (fr : α → Tm) (fc : Tm) (hp : α → Heap) (hc : Heap) (μ : α → Nat) (x0 : α) (hs : Sub (fr x0 ++ fc) t := by (try dsimp only [List.cons_append, List.nil_append]); exact sbt) (hh : HSub H (hp x0 ++ hc) := by (try dsimp only [List.cons_append, List.nil_append]); exact hsb) (h0 : I x0)
    (k : ∀ x, I x → WD G P N ds c (LoopQ I (fun x => fr x ++ fc) (fun x => hp x ++ hc) μ x Q) (fr x ++ fc) (hp x ++ hc)) : WD G P N ds (.loop c) Q t H := D.w_loop α I (fun x => fr x ++ fc) (fun x => hp x ++ hc) μ x0 h0 hs hh k
end
end Go.Sx
namespace Go.Sx
open Go

/-! ## A function that defers in its midst -/
theorem fr_start {N : Nat} {fn : Func} {args : List Value} (hN : fn.ntmps = N) (hle : args.length ≤ N) : Fr N (envOf 0 args) { tmps := args.toArray ++ Array.replicate (fn.ntmps - args.toArray.size) undef, defers := [] } := by
  subst hN
  refine ⟨by simp; omega, rfl, fun n v hv => ?_⟩
  obtain ⟨_, h2⟩ := look_envOf args 0 n v hv
  have hlt := (List.getElem?_eq_some_iff.1 h2).1
  rw [Array.getElem?_append_left (by simpa using hlt)]
  simpa using h2
section
variable (G : Base) (P : Program) (N : Nat)
structure WR (c : Code) (Z : Exit → Act → World → Prop) (t : Tm) (H : Heap) : Prop where
  go : ∀ a w, Fr N t a → Sat G w H → Code.wp P c Z a w
def SeqR (y : Code) (Z : Exit → Act → World → Prop) : Post := fun e t H => match e with
  | .normal => WR G P N y Z t H
  | _ => False
/-- A deferred call that does nothing to see. -/
def QuietD (f : FuncId) (args : Array Value) (H : Heap) : Prop := ∀ w, Sat G w H → CallsD P f args .returning w fun e u' w' => e = .returned (.tuple #[]) ∧ u' = .returning ∧ Sat G w' H
end
section
variable {G : Base} {P : Program} {N : Nat} {Z : Exit → Act → World → Prop} {t : Tm} {H : Heap}
theorem A.ws_ {x y : Code} (h : W G P N x (SeqR G P N y Z) t H) : WR G P N (.seq x y) Z t H :=
  ⟨fun a w ha hw => wp_seq (wp_mono (h.go a w ha hw) fun e a' w' hu => by
    obtain ⟨t', H', ha', hw', hq⟩ := hu
    cases e <;> first | exact hq.go a' w' ha' hw' | exact hq.elim)⟩
theorem A.qn_ {y : Code} (h : WR G P N y Z t H) : SeqR G P N y Z .normal t H := h
theorem A.sr_ {x y : Code} (h : WR G P N x (Exit.then (y.wp P Z) Z) t H) : WR G P N (.seq x y) Z t H := ⟨fun a w ha hw => wp_seq (h.go a w ha hw)⟩
theorem A.ct_ {c : Operand} {x y : Code} (hc : evo t c = some (.bool true)) (h : WR G P N x Z t H) : WR G P N (.cond c x y) Z t H :=
  ⟨fun a w ha hw => wp_cond (t := true) (ha.agree c _ hc) (h.go a w ha hw)⟩
theorem A.df_ {id : Nat} {d : Tmp} {f : FuncId} {x : Operand} {tx ty : TypeId} {p1 p2 : String} {af1 af2 : Array Edge} {tys : Array TypeId} {v : Value} {y : Code} {Q : Post} (hx : evo t x = some v) (hft : fits N (some d) = true) (hev : evo (put t (some d) v) (.tmp d) = some v)
    (hQ : ∀ e a w, upD G N [⟨.fn (.func f) #[], #[v]⟩] Q e a w → Z e a w) (h : WD G P N [⟨.fn (.func f) #[], #[v]⟩] y Q (put t (some d) v) H) :
    WR G P N (.region id [(⟨some d, .move x, tx, p1, af1, none⟩ : Oper), ⟨none, .defer ⟨.value (.func f), #[.tmp d], tys⟩, ty, p2, af2, none⟩].toArray false) (Exit.then (y.wp P Z) Z) t H := by
  refine ⟨fun a1 w ha hw => wp_region_lit ?_⟩
  have e1 : a1.eval x = v := ha.agree _ _ hx
  unfold wpList
  rw [if_pos (by simp [Region.wanted])]
  left
  show Oper.upon _ _ _ _ _ ((execOp a1.eval _).run _ _)
  have hx1 : (execOp a1.eval ⟨some d, .move x, tx, p1, af1, none⟩).run P w = .ok (.value v) w := by
    simp [execOp, e1, Sem.run_bind, Sem.run_pure, Result.andThen_ok]
  rw [hx1, Oper.upon_value]
  have ha2 := ha.put (d := some d) hft v
  obtain ⟨a2, ea2⟩ : ∃ a2, a2 = a1.put (some d) v := ⟨_, rfl⟩
  rw [← ea2] at ha2
  show wpList _ _ _ _ (a1.put (some d) _) w
  rw [← ea2]
  have e4 : a2.eval (.tmp d) = v := ha2.agree _ _ hev
  unfold wpList
  rw [if_pos (by simp [Region.wanted])]
  left
  show Oper.upon _ _ _ _ _ ((execOp a2.eval _).run _ _)
  have hy : (execOp a2.eval ⟨none, .defer ⟨.value (.func f), #[.tmp d], tys⟩, ty, p2, af2, none⟩).run P w = .ok (.defer ⟨.fn (.func f) #[], #[v]⟩) w := by
    simp [execOp, resolve, e4, Act.eval, Deferred.ofValue, Sem.run_bind, Sem.run_pure, Result.andThen_ok]
    simpa [Act.eval] using e4
  rw [hy, Oper.upon_defer]
  refine wpList_nil ?_
  simp only [Exit.then]
  have ed : a2.defers = [] := ha2.defers
  rw [ed]
  exact wp_mono (h.go a2 w ha2 hw) hQ
theorem quiet_walk {f : FuncId} {fn : Func} {c : Code} {args : List Value} (hf : P.funcs[f]? = some fn) (hb : fn.body = some c) (hN : fn.ntmps = N) (hle : args.length ≤ N)
    (h : W G P N c (ResQ P fn fun v H' => v = .tuple #[] ∧ HSub H' H) (envOf 0 args) H) : QuietD G P f args.toArray H := fun w hw =>
  (callsD_of_wp (R := fun e w' => e = .returned (.tuple #[]) ∧ Sat G w' H) hf hb (wp_mono (h.go _ w (fr_start hN hle) hw) fun e a' w' hu => by
    obtain ⟨t', H', ha', hw', he, v, ⟨rfl, hv⟩, hr⟩ := hu
    rcases he with rfl | rfl
    · exact ⟨ha'.defers, _, hr _ _ _ _ ha' hw', rfl, hv.sat hw'⟩
    · exact ⟨ha'.defers, _, hr _ _ _ _ ha' hw', rfl, hv.sat hw'⟩)).mono fun e u' w' h1 => ⟨h1.2.1, h1.1, h1.2.2⟩
theorem quiet_out {f : FuncId} {fn : Func} {v : Value} {K : Value → Heap → Prop} (hen : ∀ (xs : Array Value) w, (callFunc f xs).run P w = .ok (.enter f xs) w) {e : Exit} {a : Act} {w : World}
    (hu : upD G N [⟨.fn (.func f) #[], #[v]⟩] (ResQ P fn fun r H' => QuietD G P f #[v] H' ∧ ∃ H'', HSub H' H'' ∧ K r H'') e a w) :
    bodyPostD P fn (fun e w' => match e with
      | .returned r => ∃ H', Sat G w' H' ∧ K r H'
      | _ => False) e a w := by
  obtain ⟨t', H', a0, ha', rfl, hw', he, r, ⟨hq, H'', hs, hk⟩, hr⟩ := hu
  have hL : Leaves P fn a0.tmps (fun e w' => match e with
      | .returned r => ∃ H', Sat G w' H' ∧ K r H'
      | _ => False) [⟨.fn (.func f) #[], #[v]⟩] .returning w := by
    refine leaves_cons (f := f) (args := #[v]) (by simp) ?_ ?_
    · show (callFunc f (#[] ++ #[_])).run _ _ = _
      exact hen _ _
    · refine (hq w hw').mono ?_
      rintro e u' w'' ⟨rfl, rfl, hw2⟩
      exact ⟨_, hr G N a0 _ ha' hw2, H'', hs.sat hw2, hk⟩
  rcases he with rfl | rfl
  · exact hL
  · exact hL
theorem sc_defers {f : FuncId} {fn : Func} {c : Code} {args : List Value} {K : Value → Heap → Prop} (hf : P.funcs[f]? = some fn) (hb : fn.body = some c) (hN : fn.ntmps = N) (hn : (fn.name == "runtime.NumGoroutine") = false) (hle : args.length ≤ N)
    (h : WR G P N c (bodyPostD P fn (fun e w' => match e with
      | .returned r => ∃ H', Sat G w' H' ∧ K r H'
      | _ => False)) (envOf 0 args) H) : SC G P f args H K := by
  refine ⟨fun xs w => ?_, fun w hw => calls_of_wp_defers hf hb (h.go _ w (fr_start hN hle) hw)⟩
  have hn' : ¬ fn.name = "runtime.NumGoroutine" := by simpa using hn
  simp [callFunc, hf, hb, hn']
end
end Go.Sx
