import Derived.Test.YtniphaoadhojlaaGreatDoorSxT
import Derived.KernelRfl
set_option linter.all false
namespace Go.Sx
open Go

/-! ## Short forms: what a step can find by itself is left to default values -/
section
variable {G : Base} {P : Program} {N : Nat} {Q : Post} {t : Tm} {H : Heap} {ops : Array Oper} {dst : Option Tmp} {ty : TypeId} {pos : String} {after : Array Edge} {g : Option (Nat × Bool)} {l : List Oper} {op : Op} {v : Value} {j d : Nat} {want b : Bool}

theorem nrm {p q : Prop} (h : p) (k : p → q := by intro h; first | (simp only [decide_eq_true_eq, decide_eq_false_iff_not, Bool.not_eq_true', Bool.not_eq_false', Bool.and_eq_true, Bool.or_eq_true, Bool.or_eq_false_iff, Bool.and_eq_false_iff, ne_eq, Decidable.not_not] at h; exact h) | exact h) : q := k h
theorem hsb {H H' : Heap} (h : HSub H H' := by (repeat (first | exact HSub.refl | apply HSub.vr | apply HSub.row | apply HSub.wr | apply HSub.wr' | apply HSub.wr0 | apply HSub.rd | apply HSub.rd' rfl | apply HSub.nilRow | apply HSub.mp | apply HSub.starNil | apply HSub.starRow | apply HSub.starStar | apply HSub.keepA | apply HSub.drop))) : HSub H H' := h
theorem sbt {t' t : Tm} (h : Sub t' t := by (repeat (first | exact Sub.nil | apply Sub.cons (by exact rfl)))) : Sub t' t := h

theorem ctt {F t' : Tm} {H' : Heap} (h : Sub F t' := by (repeat (first | exact Sub.nil | apply Sub.cons (by exact rfl) | refine Sub.cons (congrArg (fun b => some (Value.bool b)) (cut_f (by omega))) ?_ | refine Sub.cons (congrArg (fun b => some (Value.bool b)) (cut_t (by omega))) ?_ | refine Sub.cons (congrArg (fun b => some (Value.bool b)) (cut_d (by omega))) ?_))) : Exit.normal = Exit.normal ∧ Sub F t' ∧ H' = H' := ⟨rfl, h, rfl⟩
-- connectors
theorem e_ (h : Ev G P ⟨dst, op, ty, pos, after, none⟩ t H v) (hd : fits N dst = true := by exact rfl) (k : O G P N ops l Q (put t dst v) H) : O G P N ops (⟨dst, op, ty, pos, after, none⟩ :: l) Q t H := o_ev h hd k
theorem eg_ (h : Ev G P ⟨dst, op, ty, pos, after, some (j, want)⟩ t H v) (hj : (ops[j]?).bind (·.dst) = some d := by exact rfl) (hv : look t d = some (.bool want) := by exact rfl) (hd : fits N dst = true := by exact rfl) (k : O G P N ops l Q (put t dst v) H) :
    O G P N ops (⟨dst, op, ty, pos, after, some (j, want)⟩ :: l) Q t H := o_on_ev hj hv hd h k
theorem of_ (hj : (ops[j]?).bind (·.dst) = some d := by exact rfl) (hv : look t d = some (.bool !want) := by exact rfl) (hd : fits N dst = true := by exact rfl) (k : O G P N ops l Q (put t dst undef) H) :
    O G P N ops (⟨dst, op, ty, pos, after, some (j, want)⟩ :: l) Q t H := o_off hj hv hd k
theorem ou_ (hj : (ops[j]?).bind (·.dst) = some d := by exact rfl) (hv : look t d = some undef := by exact rfl) (hd : fits N dst = true := by exact rfl) (k : O G P N ops l Q (put t dst undef) H) :
    O G P N ops (⟨dst, op, ty, pos, after, some (j, want)⟩ :: l) Q t H := o_off_u hj hv hd k
theorem s_ {R : Value → Heap → Prop} (h : St G P ⟨dst, op, ty, pos, after, none⟩ t H R) (hd : fits N dst = true := by exact rfl) (k : ∀ v H', R v H' → O G P N ops l Q (put t dst v) H') : O G P N ops (⟨dst, op, ty, pos, after, none⟩ :: l) Q t H := o_st h hd k
theorem sg_ {R : Value → Heap → Prop} (h : St G P ⟨dst, op, ty, pos, after, some (j, want)⟩ t H R) (hj : (ops[j]?).bind (·.dst) = some d := by exact rfl) (hv : look t d = some (.bool want) := by exact rfl) (hd : fits N dst = true := by exact rfl) (k : ∀ v H', R v H' → O G P N ops l Q (put t dst v) H') :
    O G P N ops (⟨dst, op, ty, pos, after, some (j, want)⟩ :: l) Q t H := o_on hj hv hd h k
theorem c_ {f : FuncId} {xs : List Operand} {ats : Array TypeId} {vs : List Value} {K : Value → Heap → Prop} (hx : evos t xs = some vs) (hc : SC G P f vs H K) (hd : fits N dst = true := by exact rfl) (k : ∀ v H', K v H' → O G P N ops l Q (put t dst v) H') :
    O G P N ops (⟨dst, .call ⟨.value (.func f), xs.toArray, ats⟩, ty, pos, after, none⟩ :: l) Q t H := o_st (st_call hx hc) hd k
theorem cp_ {f : FuncId} {xs : List Operand} {ats : Array TypeId} {vs : List Value} {H2 : Heap} (hx : evos t xs = some vs) (hc : SC G P f vs H (fun u H' => u = v ∧ H' = H2)) (hd : fits N dst = true := by exact rfl) (k : O G P N ops l Q (put t dst v) H2) :
    O G P N ops (⟨dst, .call ⟨.value (.func f), xs.toArray, ats⟩, ty, pos, after, none⟩ :: l) Q t H := o_st (st_call hx hc) hd (by rintro _ _ ⟨rfl, rfl⟩; exact k)
theorem sp_ {p q : Prop} (h : Ev G P ⟨dst, op, ty, pos, after, none⟩ t H (.bool b)) (hd : fits N dst = true := by exact rfl) (n1 : b = true → p := by intro h; first | (simp only [decide_eq_true_eq, decide_eq_false_iff_not, Bool.not_eq_true', Bool.not_eq_false', Bool.and_eq_true, Bool.or_eq_true, Bool.or_eq_false_iff, Bool.and_eq_false_iff, ne_eq, Decidable.not_not] at h; exact h) | exact h) (n2 : b = false → q := by intro h; first | (simp only [decide_eq_true_eq, decide_eq_false_iff_not, Bool.not_eq_true', Bool.not_eq_false', Bool.and_eq_true, Bool.or_eq_true, Bool.or_eq_false_iff, Bool.and_eq_false_iff, ne_eq, Decidable.not_not] at h; exact h) | exact h)
    (k : p → O G P N ops l Q (put t dst (.bool true)) H) (m : q → O G P N ops l Q (put t dst (.bool false)) H) : O G P N ops (⟨dst, op, ty, pos, after, none⟩ :: l) Q t H := o_split h hd (fun h => k (n1 h)) (fun h => m (n2 h))
theorem sr_ (h : Ev G P ⟨dst, op, ty, pos, after, none⟩ t H (.bool b)) (hd : fits N dst = true := by exact rfl)
    (k : b = true → O G P N ops l Q (put t dst (.bool true)) H) (m : b = false → O G P N ops l Q (put t dst (.bool false)) H) : O G P N ops (⟨dst, op, ty, pos, after, none⟩ :: l) Q t H := o_split h hd k m
theorem spg_ {p q : Prop} (h : Ev G P ⟨dst, op, ty, pos, after, some (j, want)⟩ t H (.bool b)) (hj : (ops[j]?).bind (·.dst) = some d := by exact rfl) (hv : look t d = some (.bool want) := by exact rfl) (hd : fits N dst = true := by exact rfl) (n1 : b = true → p := by intro h; first | (simp only [decide_eq_true_eq, decide_eq_false_iff_not, Bool.not_eq_true', Bool.not_eq_false', Bool.and_eq_true, Bool.or_eq_true, Bool.or_eq_false_iff, Bool.and_eq_false_iff, ne_eq, Decidable.not_not] at h; exact h) | exact h) (n2 : b = false → q := by intro h; first | (simp only [decide_eq_true_eq, decide_eq_false_iff_not, Bool.not_eq_true', Bool.not_eq_false', Bool.and_eq_true, Bool.or_eq_true, Bool.or_eq_false_iff, Bool.and_eq_false_iff, ne_eq, Decidable.not_not] at h; exact h) | exact h)
    (k : p → O G P N ops l Q (put t dst (.bool true)) H) (m : q → O G P N ops l Q (put t dst (.bool false)) H) : O G P N ops (⟨dst, op, ty, pos, after, some (j, want)⟩ :: l) Q t H := o_split_on hj hv h hd (fun h => k (n1 h)) (fun h => m (n2 h))
theorem srg_ (h : Ev G P ⟨dst, op, ty, pos, after, some (j, want)⟩ t H (.bool b)) (hj : (ops[j]?).bind (·.dst) = some d := by exact rfl) (hv : look t d = some (.bool want) := by exact rfl) (hd : fits N dst = true := by exact rfl)
    (k : b = true → O G P N ops l Q (put t dst (.bool true)) H) (m : b = false → O G P N ops l Q (put t dst (.bool false)) H) : O G P N ops (⟨dst, op, ty, pos, after, some (j, want)⟩ :: l) Q t H := o_split_on hj hv h hd k m
-- control
theorem wi_ {c : Operand} {x y : Code} {p q : Prop} (hc : evo t c = some (.bool b) := by exact rfl) (n1 : b = true → p := by intro h; first | (simp only [decide_eq_true_eq, decide_eq_false_iff_not, Bool.not_eq_true', Bool.not_eq_false', Bool.and_eq_true, Bool.or_eq_true, Bool.or_eq_false_iff, Bool.and_eq_false_iff, ne_eq, Decidable.not_not] at h; exact h) | exact h) (n2 : b = false → q := by intro h; first | (simp only [decide_eq_true_eq, decide_eq_false_iff_not, Bool.not_eq_true', Bool.not_eq_false', Bool.and_eq_true, Bool.or_eq_true, Bool.or_eq_false_iff, Bool.and_eq_false_iff, ne_eq, Decidable.not_not] at h; exact h) | exact h)
    (k : p → W G P N x Q t H) (m : q → W G P N y Q t H) : W G P N (.cond c x y) Q t H := w_if hc (fun h => k (n1 h)) (fun h => m (n2 h))
theorem ir_ {c : Operand} {x y : Code} (hc : evo t c = some (.bool b) := by exact rfl) (k : b = true → W G P N x Q t H) (m : b = false → W G P N y Q t H) : W G P N (.cond c x y) Q t H := w_if hc k m
theorem ift {c : Operand} {x y : Code} (hc : evo t c = some (.bool true) := by exact rfl) (k : W G P N x Q t H) : W G P N (.cond c x y) Q t H := w_if_true hc k
theorem iff_ {c : Operand} {x y : Code} (hc : evo t c = some (.bool false) := by exact rfl) (k : W G P N y Q t H) : W G P N (.cond c x y) Q t H := w_if_false hc k
theorem ws_ {x y : Code} (h : W G P N x (SeqQ G P N y Q) t H) : W G P N (.seq x y) Q t H := w_seq h
theorem wb_ {id : Nat} {c : Code} (h : W G P N c (BlkQ id Q) t H) : W G P N (.block id c) Q t H := w_block h
theorem wr_ {id : Nat} {l : List Oper} (h : O G P N l.toArray l Q t H) : W G P N (.region id l.toArray false) Q t H := w_region h
theorem wt_ (h : Q .ret t H) : W G P N .ret Q t H := w_ret h
theorem we_ {id : Nat} (h : Q (.exit id) t H) : W G P N (.exit id) Q t H := w_exit h
theorem wk_ (h : Q .normal t H) : W G P N .skip Q t H := w_skip h
theorem on_ {ops : Array Oper} (h : Q .normal t H) : O G P N ops [] Q t H := o_nil h
theorem qn_ {y : Code} (h : W G P N y Q t H) : SeqQ G P N y Q .normal t H := h
theorem qe_ {y : Code} {id : Nat} (h : Q (.exit id) t H) : SeqQ G P N y Q (.exit id) t H := h
theorem qr_ {y : Code} (h : Q .ret t H) : SeqQ G P N y Q .ret t H := h
theorem bn_ {id : Nat} (h : Q .normal t H) : BlkQ id Q .normal t H := h
theorem br_ {id : Nat} (h : Q .ret t H) : BlkQ id Q .ret t H := h
theorem bh_ {id : Nat} (h : Q .normal t H) : BlkQ id Q (.exit id) t H := bk_h h
theorem bm_ {id id' : Nat} (hne : Nat.beq id' id = false := by exact rfl) (k : Q (.exit id') t H) : BlkQ id Q (.exit id') t H := bk_m hne k
section
variable {α : Type} {I : α → Prop} {fr : α → Tm} {hp : α → Heap} {μ : α → Nat} {x : α}
theorem ln_ (y : α) (h2 : μ y < μ x := by (try dsimp only); omega) (h3 : Sub (fr y) t := by (try dsimp only [List.cons_append, List.nil_append]); exact sbt) (h4 : HSub H (hp y) := by (try dsimp only [List.cons_append, List.nil_append]); exact hsb) (k : I y) : LoopQ I fr hp μ x Q .normal t H := ⟨y, k, h2, h3, h4⟩
theorem le_ {id : Nat} (h : Q (.exit id) t H) : LoopQ I fr hp μ x Q (.exit id) t H := h
theorem lr_ (h : Q .ret t H) : LoopQ I fr hp μ x Q .ret t H := h
end
theorem wl_ {c : Code} (α : Type) (I : α → Prop) (fr : α → Tm) (hp : α → Heap) (μ : α → Nat) (x0 : α) (hs : Sub (fr x0) t := by exact sbt) (hh : HSub H (hp x0) := by (try dsimp only); exact hsb) (h0 : I x0)
    (k : ∀ x, I x → W G P N c (LoopQ I fr hp μ x Q) (fr x) (hp x)) : W G P N (.loop c) Q t H := w_loop α I fr hp μ x0 h0 hs hh k
theorem wl2_ {c : Code} (α : Type) (I : α → Prop) (fr : α → Tm) (fc : Tm) (hp : α → Heap) (hc : Heap) (μ : α → Nat) (x0 : α) (hs : Sub (fr x0 ++ fc) t := by (try dsimp only [List.cons_append, List.nil_append]); exact sbt) (hh : HSub H (hp x0 ++ hc) := by (try dsimp only [List.cons_append, List.nil_append]); exact hsb) (h0 : I x0)
    (k : ∀ x, I x → W G P N c (LoopQ I (fun x => fr x ++ fc) (fun x => hp x ++ hc) μ x Q) (fr x ++ fc) (hp x ++ hc)) : W G P N (.loop c) Q t H := w_loop α I (fun x => fr x ++ fc) (fun x => hp x ++ hc) μ x0 h0 hs hh k
theorem rvc1 {r : Tmp} {T : TypeId} {b : Nat} {v : Value} {rs : List ResultVar} {vs : List Value} (h : look t r = some (.pointer (some ⟨b, 0, none⟩))) (hT : One P T) (hH : HasV H b [v]) (k : ResVs P t H rs vs) : ResVs P t H (.cell r T :: rs) (v :: vs) := .cons (.cell1 h) k
theorem rvc {r : Tmp} {T : TypeId} {b n : Nat} {cs : List Value} {rs : List ResultVar} {vs : List Value} (h : look t r = some (.pointer (some ⟨b, 0, none⟩))) (hT : Agg P T n) (hH : HasV H b cs) (hn : cs.length = n) (k : ResVs P t H rs vs) : ResVs P t H (.cell r T :: rs) (.agg cs.toArray :: vs) := .cons (.cell h hn) k
theorem rt_ {fn : Func} {K : Value → Heap → Prop} {e : Exit} {rs : List ResultVar} {vs : List Value} (hfn : fn.results = rs.toArray) (he : e = .normal ∨ e = .ret := by first | exact .inr rfl | exact .inl rfl) (hr : ResVs P t H rs vs := by (repeat (first | exact ResVs.nil | apply ResVs.cons (.tmp rfl) | apply rvc1 (by exact rfl) (by infer_instance) (by infer_instance) | apply rvc (by exact rfl) (by infer_instance) (by infer_instance) (by exact rfl)))) (k : K (resOf vs) H) : ResQ P fn K e t H := res_intro hfn he hr k
-- drawn regions
section
variable {loud : Nat → Bool} {F : Nat → Heap → Prop} {fuel : Nat} {listed : Array Bool}
theorem af_ (i : Nat) (hi : ops[i]? = some ⟨dst, op, ty, pos, after, none⟩ := by exact rfl) (hl : loud i = false := by exact rfl) (hb : firstB ops listed i = true := by kernel_rfl) (hd : fits N dst = true := by exact rfl) (q : Qv G P (F i) ⟨dst, op, ty, pos, after, none⟩ t v) (k : An G P N ops loud F Q fuel (listed.setIfInBounds i true) (put t dst v) H) : An G P N ops loud F Q (fuel + 1) listed t H := an_first i hi hl hb hd q k
theorem ag_ (i : Nat) (hi : ops[i]? = some ⟨dst, op, ty, pos, after, some (j, want)⟩ := by exact rfl) (hj : (ops[j]?).bind (·.dst) = some d := by exact rfl) (hv : look t d = some (.bool want) := by exact rfl) (hl : loud i = false := by exact rfl) (hb : firstB ops listed i = true := by kernel_rfl) (hd : fits N dst = true := by exact rfl)
    (q : Qv G P (F i) ⟨dst, op, ty, pos, after, some (j, want)⟩ t v) (k : An G P N ops loud F Q fuel (listed.setIfInBounds i true) (put t dst v) H) : An G P N ops loud F Q (fuel + 1) listed t H := an_on i hi hj hv hl hb hd q k
theorem ao_ (i : Nat) (hi : ops[i]? = some ⟨dst, op, ty, pos, after, some (j, want)⟩ := by exact rfl) (hj : (ops[j]?).bind (·.dst) = some d := by exact rfl) (hv : look t d = some (.bool !want) := by exact rfl) (hl : loud i = false := by exact rfl) (hb : firstB ops listed i = true := by kernel_rfl) (hd : fits N dst = true := by exact rfl)
    (k : An G P N ops loud F Q fuel (listed.setIfInBounds i true) (put t dst undef) H) : An G P N ops loud F Q (fuel + 1) listed t H := an_off i hi hj hv hl hb hd k
end
section
variable {fuel : Nat} {listed : Array Bool} {H0 : Heap}
theorem as_ (i : Nat) (hi : ops[i]? = some ⟨dst, op, ty, pos, after, none⟩ := by exact rfl) (hb : firstB ops listed i = true := by kernel_rfl) (hd : fits N dst = true := by exact rfl) (q : Ev G P ⟨dst, op, ty, pos, after, none⟩ t H0 v) (k : An G P N ops still (at_ H0) Q fuel (listed.setIfInBounds i true) (put t dst v) H) : An G P N ops still (at_ H0) Q (fuel + 1) listed t H := an_first i hi rfl hb hd (qv_at q) k
theorem at2 (i : Nat) (hi : ops[i]? = some ⟨dst, op, ty, pos, after, some (j, want)⟩ := by exact rfl) (hj : (ops[j]?).bind (·.dst) = some d := by exact rfl) (hv : look t d = some (.bool want) := by exact rfl) (hb : firstB ops listed i = true := by kernel_rfl) (hd : fits N dst = true := by exact rfl)
    (q : Ev G P ⟨dst, op, ty, pos, after, some (j, want)⟩ t H0 v) (k : An G P N ops still (at_ H0) Q fuel (listed.setIfInBounds i true) (put t dst v) H) : An G P N ops still (at_ H0) Q (fuel + 1) listed t H := an_on i hi hj hv rfl hb hd (qv_at q) k
theorem az_ (hr : (Region.ready .any ops listed).isEmpty = true := by kernel_rfl) (k : Q .normal t H0) : An G P N ops still (at_ H0) Q 0 listed t H0 := an_nil hr (fun _ _ => rfl) k
end
end

/-! ## Values of operations -/
section
variable {G : Base} {P : Program} {t : Tm} {H : Heap} {dst : Option Tmp} {ty : TypeId} {pos : String} {after : Array Edge} {g : Option (Nat × Bool)}
theorem mv {x : Operand} {v : Value} (hx : evo t x = some v := by exact rfl) : Ev G P ⟨dst, .move x, ty, pos, after, g⟩ t H v := ev_move hx
theorem asn {x : Operand} {v : Value} (hx : evo t x = some v := by exact rfl) : Ev G P ⟨dst, .assign x, ty, pos, after, g⟩ t H v := ev_assign hx
theorem asv {x : Operand} {u v : Value} (hx : evo t x = some u) (h : u = v) : Ev G P ⟨dst, .assign x, ty, pos, after, g⟩ t H v := h ▸ ev_assign hx
theorem exr {x : Operand} {i : Nat} {vs : Array Value} {v : Value} (hx : evo t x = some (.tuple vs) := by exact rfl) (hv : vs.toList[i]? = some v := by exact rfl) : Ev G P ⟨dst, .extract x i, ty, pos, after, g⟩ t H v := ev_extract1 hx hv
theorem nck {x : Operand} {a : Addr} (hx : evo t x = some (.pointer (some a)) := by exact rfl) : Ev G P ⟨dst, .nilCheck x, ty, pos, after, g⟩ t H (.pointer (some a)) := ev_nilCheck hx
theorem pkt {a b c : Operand} {va : Value} (hc : evo t c = some (.bool true) := by exact rfl) (ha : evo t a = some va := by exact rfl) : Ev G P ⟨dst, .pick c a b, ty, pos, after, g⟩ t H va := ev_pick_t hc ha
theorem pkf {a b c : Operand} {vb : Value} (hc : evo t c = some (.bool false) := by exact rfl) (hb : evo t b = some vb := by exact rfl) : Ev G P ⟨dst, .pick c a b, ty, pos, after, g⟩ t H vb := ev_pick_f hc hb
section
variable {T U : TypeId} {x y : Operand} {k : IntKind} {a b : Int}
theorem ilt (hx : evo t x = some (.int k a) := by exact rfl) (hy : evo t y = some (.int k b) := by exact rfl) : Ev G P ⟨dst, .binOp .lss T x y U, ty, pos, after, g⟩ t H (.bool (decide (a < b))) := ev_lss hx hy
theorem ile (hx : evo t x = some (.int k a) := by exact rfl) (hy : evo t y = some (.int k b) := by exact rfl) : Ev G P ⟨dst, .binOp .leq T x y U, ty, pos, after, g⟩ t H (.bool (decide (a ≤ b))) := ev_leq hx hy
theorem igt (hx : evo t x = some (.int k a) := by exact rfl) (hy : evo t y = some (.int k b) := by exact rfl) : Ev G P ⟨dst, .binOp .gtr T x y U, ty, pos, after, g⟩ t H (.bool (decide (b < a))) := ev_gtr hx hy
theorem ige (hx : evo t x = some (.int k a) := by exact rfl) (hy : evo t y = some (.int k b) := by exact rfl) : Ev G P ⟨dst, .binOp .geq T x y U, ty, pos, after, g⟩ t H (.bool (decide (b ≤ a))) := ev_geq hx hy
theorem ieq (hx : evo t x = some (.int k a) := by exact rfl) (hy : evo t y = some (.int k b) := by exact rfl) : Ev G P ⟨dst, .binOp .eql T x y U, ty, pos, after, g⟩ t H (.bool (decide (a = b))) := ev_eql hx hy
theorem ine (hx : evo t x = some (.int k a) := by exact rfl) (hy : evo t y = some (.int k b) := by exact rfl) : Ev G P ⟨dst, .binOp .neq T x y U, ty, pos, after, g⟩ t H (.bool (decide (a ≠ b))) := ev_neq hx hy
theorem iad (hx : evo t x = some (.int .i64 a) := by exact rfl) (hy : evo t y = some (.int .i64 b) := by exact rfl) (h : -9223372036854775808 ≤ a + b ∧ a + b ≤ 9223372036854775807 := by omega) : Ev G P ⟨dst, .binOp .add T x y U, ty, pos, after, g⟩ t H (.int .i64 (a + b)) := ev_add hx hy h
theorem isb (hx : evo t x = some (.int .i64 a) := by exact rfl) (hy : evo t y = some (.int .i64 b) := by exact rfl) (h : -9223372036854775808 ≤ a - b ∧ a - b ≤ 9223372036854775807 := by omega) : Ev G P ⟨dst, .binOp .sub T x y U, ty, pos, after, g⟩ t H (.int .i64 (a - b)) := ev_sub hx hy h
theorem iml (hx : evo t x = some (.int .i64 a) := by exact rfl) (hy : evo t y = some (.int .i64 b) := by exact rfl) (h : -9223372036854775808 ≤ a * b ∧ a * b ≤ 9223372036854775807 := by omega) : Ev G P ⟨dst, .binOp .mul T x y U, ty, pos, after, g⟩ t H (.int .i64 (a * b)) := ev_mul hx hy h
end
theorem bnot {T : TypeId} {x : Operand} {b : Bool} (hx : evo t x = some (.bool b) := by exact rfl) : Ev G P ⟨dst, .unOp .not T x, ty, pos, after, g⟩ t H (.bool !b) := ev_not hx
theorem ldv {T : TypeId} {x : Operand} {b off : Nat} {l : List Value} {v : Value} (hx : evo t x = some (.pointer (some ⟨b, off, none⟩)) := by exact rfl) (hT : One P T := by infer_instance) (hH : HasV H b l := by infer_instance) (hc : Cut l off 1 [v] := by infer_instance) : Ev G P ⟨dst, .load T x, ty, pos, after, g⟩ t H v := ev_load hx
theorem lds {T : TypeId} {x : Operand} {b off n : Nat} {l cs : List Value} (hx : evo t x = some (.pointer (some ⟨b, off, none⟩)) := by exact rfl) (hT : Agg P T n := by infer_instance) (hH : HasV H b l := by infer_instance) (hc : Cut l off n cs := by infer_instance) : Ev G P ⟨dst, .load T x, ty, pos, after, g⟩ t H (.agg cs.toArray) := ev_loadS hx
theorem fla {T : TypeId} {x : Operand} {k b o off o' : Nat} (hx : evo t x = some (.pointer (some ⟨b, o, none⟩)) := by exact rfl) (hf : Fld P T k off := by infer_instance) (ha : AddC o off o' := by infer_instance) : Ev G P ⟨dst, .fieldAddr T x k, ty, pos, after, g⟩ t H (.pointer (some ⟨b, o', none⟩)) := ev_fieldAddr hx
theorem fle {T : TypeId} {x : Operand} {s : SV} {k sz i o off o' : Nat} {α : Type} {e : Enc α} {xs : List α} (hx : evo t x = some (.pointer (s.elt sz i o)) := by exact rfl) (hs : Sl H s e xs := by infer_instance) (hf : Fld P T k off := by infer_instance) (ha : AddC o off o' := by infer_instance) (hlt : i < xs.length := by omega) : Ev G P ⟨dst, .fieldAddr T x k, ty, pos, after, g⟩ t H (.pointer (s.elt sz i o')) := ev_fieldAddr_elt hx hlt
theorem ixa {x ix : Operand} {T E : TypeId} {s : SV} {α : Type} {e : Enc α} {xs : List α} {sz bb : Nat} {z : Value} {k : IntKind} {j : Int} {i : Nat} (hx : evo t x = some s.val := by exact rfl) (hi : evo t ix = some (.int k j) := by exact rfl) (hT : Und P T (.slice E) := by infer_instance) (hE : Inf P E sz bb z := by infer_instance) (hs : Sl H s e xs := by infer_instance) (hj : j = i := by first | exact rfl | exact prd1 (by omega) | exact prd2 (by omega) | exact prd3 (by omega) | exact prdn (by omega) | exact (Int.toNat_of_nonneg (by omega)).symm) (hlt : i < xs.length := by omega) : Ev G P ⟨dst, .indexAddr T x ix, ty, pos, after, g⟩ t H (.pointer (s.elt sz i 0)) := ev_indexAddr hx hi i hj hlt
/-- The byte at place i, 0 where there is none. -/
def at0 (s : List Nat) (i : Nat) : Nat := s.getD i 0
theorem prd1 {i : Nat} (h : 1 ≤ i) : (i : Int) - 1 = ((i - 1 : Nat) : Int) := by omega
theorem prd2 {i : Nat} (h : 2 ≤ i) : (i : Int) - 2 = ((i - 2 : Nat) : Int) := by omega
theorem prd3 {i : Nat} (h : 3 ≤ i) : (i : Int) - 3 = ((i - 3 : Nat) : Int) := by omega
theorem prdn {i k : Nat} (h : k ≤ i) : (i : Int) - (k : Int) = ((i - k : Nat) : Int) := by omega
theorem ixs {T : TypeId} {x ix : Operand} {s : ByteArray} {k : IntKind} {j : Int} {i : Nat} (hx : evo t x = some (.string s) := by exact rfl) (hi : evo t ix = some (.int k j) := by exact rfl) (hT : Und P T .string := by infer_instance) (hj : j = ((i : Nat) : Int) := by first | exact rfl | exact prd1 (by omega) | exact prd2 (by omega) | exact prd3 (by omega) | exact prdn (by omega) | exact (Int.toNat_of_nonneg (by omega)).symm) (hlt : i < (byts s).length := by first | omega | (simp only [byts_length]; omega)) :
    Ev G P ⟨dst, .index T x ix, ty, pos, after, g⟩ t H (.int .u8 ((at0 (byts s) i : Nat) : Int)) := ev_index_str hx hi i hj _ (by rw [at0, List.getD_eq_getElem?_getD, List.getElem?_eq_getElem hlt]; rfl)
theorem sls1 {T : TypeId} {x o : Operand} {s : ByteArray} {k : IntKind} {j : Int} {a : Nat} (hx : evo t x = some (.string s) := by exact rfl) (ho : evo t o = some (.int k j) := by exact rfl) (hT : Und P T .string := by infer_instance) (hj : j = ((a : Nat) : Int) := by first | exact rfl | exact prd1 (by omega) | exact prd2 (by omega) | exact prd3 (by omega) | exact prdn (by omega) | exact (Int.toNat_of_nonneg (by omega)).symm) (h1 : a ≤ s.size := by omega) :
    Ev G P ⟨dst, .slice T x (some o) none none, ty, pos, after, g⟩ t H (.string (s.extract a s.size)) := ev_slice_str hx a s.size ⟨k, j, ho, hj⟩ rfl h1 (Nat.le_refl _)
theorem sls2 {T : TypeId} {x o : Operand} {s : ByteArray} {k : IntKind} {j : Int} {b : Nat} (hx : evo t x = some (.string s) := by exact rfl) (ho : evo t o = some (.int k j) := by exact rfl) (hT : Und P T .string := by infer_instance) (hj : j = ((b : Nat) : Int) := by first | exact rfl | exact prd1 (by omega) | exact prd2 (by omega) | exact prd3 (by omega) | exact prdn (by omega) | exact (Int.toNat_of_nonneg (by omega)).symm) (h1 : b ≤ s.size := by omega) :
    Ev G P ⟨dst, .slice T x none (some o) none, ty, pos, after, g⟩ t H (.string (s.extract 0 b)) := ev_slice_str hx 0 b rfl ⟨k, j, ho, hj⟩ (Nat.zero_le _) h1
theorem sls3 {T : TypeId} {x o p : Operand} {s : ByteArray} {k k' : IntKind} {j j' : Int} {a b : Nat} (hx : evo t x = some (.string s) := by exact rfl) (ho : evo t o = some (.int k j) := by exact rfl) (hp : evo t p = some (.int k' j') := by exact rfl) (hT : Und P T .string := by infer_instance) (hj : j = ((a : Nat) : Int) := by first | exact rfl | exact prd1 (by omega) | exact prd2 (by omega) | exact prd3 (by omega) | exact prdn (by omega) | exact (Int.toNat_of_nonneg (by omega)).symm) (hj' : j' = ((b : Nat) : Int) := by first | exact rfl | exact prd1 (by omega) | exact prd2 (by omega) | exact prd3 (by omega) | exact prdn (by omega) | exact (Int.toNat_of_nonneg (by omega)).symm) (h1 : a ≤ b := by omega) (h2 : b ≤ s.size := by omega) :
    Ev G P ⟨dst, .slice T x (some o) (some p) none, ty, pos, after, g⟩ t H (.string (s.extract a b)) := ev_slice_str hx a b ⟨k, j, ho, hj⟩ ⟨k', j', hp, hj'⟩ h1 h2
theorem seq_ {T U : TypeId} {x y : Operand} {a b : ByteArray} (hx : evo t x = some (.string a) := by exact rfl) (hy : evo t y = some (.string b) := by exact rfl) : Ev G P ⟨dst, .binOp .eql T x y U, ty, pos, after, g⟩ t H (.bool (decide (byts a = byts b))) := ev_eql_str hx hy
theorem sne_ {T U : TypeId} {x y : Operand} {a b : ByteArray} (hx : evo t x = some (.string a) := by exact rfl) (hy : evo t y = some (.string b) := by exact rfl) : Ev G P ⟨dst, .binOp .neq T x y U, ty, pos, after, g⟩ t H (.bool (!decide (byts a = byts b))) := ev_neq_str hx hy
theorem sad_ {T U : TypeId} {x y : Operand} {a b : ByteArray} (hx : evo t x = some (.string a) := by exact rfl) (hy : evo t y = some (.string b) := by exact rfl) (h : a.size + b.size ≤ 9223372036854775807 := by omega) : Ev G P ⟨dst, .binOp .add T x y U, ty, pos, after, g⟩ t H (.string (a ++ b)) := ev_add_str hx hy h
theorem lel {T : TypeId} {x : Operand} {s : SV} {i sz : Nat} {v : Value} {α : Type} {e : Enc α} {xs : List α} {y : α} (hx : evo t x = some (.pointer (s.elt sz i 0)) := by exact rfl) (hT : One P T := by infer_instance) (hs : Sl H s e xs := by infer_instance) (hsz : e.sz = sz := by exact rfl) (ha : e.agg = false := by exact rfl) (hy : xs[i]? = some y := by first | assumption | rfl | exact List.getElem?_eq_getElem (by omega)) (hv : EncW e y v := by infer_instance) : Ev G P ⟨dst, .load T x, ty, pos, after, g⟩ t H v := ev_load_el hx hsz ha y hy
theorem lsel {T : TypeId} {x : Operand} {s : SV} {i sz : Nat} {v : Value} {α : Type} {e : Enc α} {xs : List α} {y : α} (hx : evo t x = some (.pointer (s.elt sz i 0)) := by exact rfl) (hT : Agg P T sz := by infer_instance) (hs : Sl H s e xs := by infer_instance) (hsz : e.sz = sz := by exact rfl) (ha : e.agg = true := by exact rfl) (hy : xs[i]? = some y := by first | assumption | rfl | exact List.getElem?_eq_getElem (by omega)) (hv : EncW e y v := by infer_instance) : Ev G P ⟨dst, .load T x, ty, pos, after, g⟩ t H v := ev_loadS_el hx hsz ha y hy
theorem lfl {T : TypeId} {x : Operand} {s : SV} {i o sz : Nat} {v : Value} {α : Type} {e : Enc α} {xs : List α} {y : α} (hx : evo t x = some (.pointer (s.elt sz i o)) := by exact rfl) (hT : One P T := by infer_instance) (hs : Sl H s e xs := by infer_instance) (hsz : e.sz = sz := by exact rfl) (hy : xs[i]? = some y := by first | assumption | rfl | exact List.getElem?_eq_getElem (by omega)) (hc : (e.f y)[o]? = some v := by exact rfl) : Ev G P ⟨dst, .load T x, ty, pos, after, g⟩ t H v := ev_load_fl hx hsz y hy hc
theorem lsfl {T : TypeId} {x : Operand} {s : SV} {i o n sz : Nat} {l cs : List Value} {α : Type} {e : Enc α} {xs : List α} {y : α} (hx : evo t x = some (.pointer (s.elt sz i o)) := by exact rfl) (hT : Agg P T n := by infer_instance) (hs : Sl H s e xs := by infer_instance) (hsz : e.sz = sz := by exact rfl) (hy : xs[i]? = some y := by first | assumption | rfl | exact List.getElem?_eq_getElem (by omega)) (hl : e.f y = l := by exact rfl) (hc : Cut l o n cs := by infer_instance) : Ev G P ⟨dst, .load T x, ty, pos, after, g⟩ t H (.agg cs.toArray) := ev_loadS_fl hx hsz y hy hl
theorem bld {T : TypeId} {ps : List (Nat × Operand)} {places : List (Nat × Nat)} {z l : List Value} (vs : List (Nat × Value)) (hp : evps t ps = some vs := by exact rfl) (hs : Str P T places z := by infer_instance) (hf : Fil places z vs l := by infer_instance) : Ev G P ⟨dst, .build T ps.toArray, ty, pos, after, g⟩ t H (.agg l.toArray) := ev_build (vs := vs) hp
theorem mki {T : TypeId} {x : Operand} {v : Value} (h : Ev G P ⟨dst, .makeInterface T x, ty, pos, after, g⟩ t H v := by exact ev_makeInterface rfl) : Ev G P ⟨dst, .makeInterface T x, ty, pos, after, g⟩ t H v := h
theorem lnn {x : Operand} {T E : TypeId} {s : SV} {α : Type} {e : Enc α} {xs : List α} (hx : evo t x = some s.val := by exact rfl) (hT : Und P T (.slice E) := by infer_instance) (hs : Sl H s e xs := by infer_instance) : Ev G P ⟨dst, .call ⟨.builtin .len, #[x], #[T]⟩, ty, pos, after, g⟩ t H (.int .i64 ((xs.length : Nat) : Int)) := ev_len1 hx
theorem lnst {x : Operand} {T : TypeId} {s : ByteArray} (hx : evo t x = some (.string s) := by exact rfl) (hT : Und P T .string := by infer_instance) : Ev G P ⟨dst, .call ⟨.builtin .len, #[x], #[T]⟩, ty, pos, after, g⟩ t H (.int .i64 ((s.size : Nat) : Int)) := ev_len_str1 hx
end
section
variable {G : Base} {P : Program} {N : Nat} {Q : Post} {t : Tm} {H : Heap} {ops : Array Oper} {dst : Option Tmp} {ty : TypeId} {pos : String} {after : Array Edge} {l : List Oper}
theorem alc {T : TypeId} {s bb : Nat} {z : Value} {cs : List Value} (hT : Inf P T s bb z := by infer_instance) (hv : Cells z cs := by infer_instance) (hd : fits N dst = true := by exact rfl) (k : ∀ b, O G P N ops l Q (put t dst (.pointer (some ⟨b, 0, none⟩))) (Vr b cs :: H)) : O G P N ops (⟨dst, .alloc T, ty, pos, after, none⟩ :: l) Q t H := o_st st_alloc hd (by rintro _ _ ⟨b, rfl, rfl⟩; exact k b)
theorem bxx {T : TypeId} {x : Operand} {v : Value} {cs : List Value} (hx : evo t x = some v := by exact rfl) (hv : Cells v cs := by infer_instance) (hd : fits N dst = true := by exact rfl) (k : ∀ b, O G P N ops l Q (put t dst (.pointer (some ⟨b, 0, none⟩))) (Vr b cs :: H)) : O G P N ops (⟨dst, .box T x, ty, pos, after, none⟩ :: l) Q t H := o_st (st_box hx) hd (by rintro _ _ ⟨b, rfl, rfl⟩; exact k b)
theorem sto {T : TypeId} {x y : Operand} {b off s bb : Nat} {z v : Value} {cs0 l' cs : List Value} {C : Hp → Heap} (hx : evo t x = some (.pointer (some ⟨b, off, none⟩)) := by exact rfl) (hy : evo t y = some v := by exact rfl)
    (hT : Inf P T s bb z := by infer_instance) (hv : Cells v cs := by infer_instance) (hf : Foc H Vr b cs0 C := by infer_instance) (hl : Spl cs0 off cs l' := by infer_instance) (hs : cs.length = s := by exact rfl) (hd : fits N dst = true := by exact rfl) (k : O G P N ops l Q (put t dst undef) (C (Vr b l'))) : O G P N ops (⟨dst, .store T x y, ty, pos, after, none⟩ :: l) Q t H := o_st (st_store hx hy hs) hd (by rintro _ _ ⟨rfl, rfl⟩; exact k)
theorem app {T T2 E E2 : TypeId} {x y : Operand} {s s2 : SV} {sz bb : Nat} {z : Value} {α : Type} {e : Enc α} {xs ys : List α} {C : Hp → Heap} (hx : evo t x = some s.val := by exact rfl) (hy : evo t y = some s2.val := by exact rfl) (hT : Und P T (.slice E) := by infer_instance) (hT2 : Und P T2 (.slice E2) := by infer_instance) (hE : Inf P E sz bb z := by infer_instance) (hf : FocR H s e xs C := by infer_instance) (hs : Sl H s2 e ys := by infer_instance)
    (hsz : sz = e.sz := by exact rfl) (hzc : z.cells.size = sz := by exact rfl) (hlim : (xs.length + ys.length) * bb ≤ 140737488355328 := by first | omega | (simp only [List.length_append, List.length_cons, List.length_nil]; omega) | (simp; omega)) (hlim2 : xs.length + ys.length ≤ 140737488355328 := by first | omega | (simp only [List.length_append, List.length_cons, List.length_nil]; omega) | (simp; omega)) (hd : fits N dst = true := by exact rfl)
    (k : ∀ s' : SV, O G P N ops l Q (put t dst s'.val) (C (Row s' e (xs ++ ys)))) : O G P N ops (⟨dst, .call ⟨.builtin .append, #[x, y], #[T, T2]⟩, ty, pos, after, none⟩ :: l) Q t H := o_st (st_append hx hy hsz hzc hlim hlim2) hd (by rintro _ _ ⟨s', rfl, rfl⟩; exact k s')
theorem bs1_ {T E : TypeId} {sz bb : Nat} {z : Value} {v1 : Value} {x1 : Operand} {α : Type} (e : Enc α) {y1 : α} (hx1 : evo t x1 = some v1 := by exact rfl) (hT : Und P T (.slice E) := by infer_instance) (hE : Inf P E sz bb z := by infer_instance) (hv1 : EncV e v1 y1 := by infer_instance) (hsz : sz = e.sz := by exact rfl) (hd : fits N dst = true := by exact rfl) (k : ∀ s : SV, O G P N ops l Q (put t dst s.val) (Row s e [y1] :: H)) :
    O G P N ops (⟨dst, .buildSlice T 1 #[(0, x1)], ty, pos, after, none⟩ :: l) Q t H := o_st (st_build1 e hx1 hsz) hd (by rintro _ _ ⟨s', rfl, rfl⟩; exact k s')
end
end Go.Sx

namespace Go.Sx
open Go
/-! ## A drawn region whose loud operations are done -/
theorem AnyK.calm {G : Base} {P : Program} {ops : Array Oper} {loud : Nat → Bool} {F : Nat → Heap → Prop} {K : Act → Heap → Prop} {H0 : Heap} (hF : ∀ i, F i H0) : ∀ (fuel : Nat) (listed : Array Bool) (a : Act) (H : Heap), AnyK G P ops still (at_ H0) K fuel listed a H → AnyK G P ops loud F K fuel listed a H
  | 0, listed, a, H, h => by
    obtain rfl : H = H0 := h.1 0 (fun _ _ _ hl => by cases hl)
    exact ⟨fun i _ => hF i, h.2⟩
  | fuel + 1, listed, a, H, h => by
    obtain rfl : H = H0 := h.1 0 (fun _ _ _ hl => by cases hl)
    exact ⟨fun i _ => hF i, h.2.1, fun i hi => (h.2.2 i hi).mono fun a H h => AnyK.calm hF fuel _ a H h⟩
theorem an_calm {G : Base} {P : Program} {N : Nat} {Q : Post} {ops : Array Oper} {loud : Nat → Bool} {F : Nat → Heap → Prop} {fuel : Nat} {listed : Array Bool} {t : Tm} {H : Heap} (hF : ∀ i, F i H) (h : An G P N ops still (at_ H) Q fuel listed t H) : An G P N ops loud F Q fuel listed t H :=
  ⟨fun a ha => AnyK.calm hF _ _ _ _ (h.go a ha)⟩
theorem an_step_off {G : Base} {P : Program} {N : Nat} {Q : Post} {t : Tm} {H : Heap} {ops : Array Oper} {loud : Nat → Bool} {F : Nat → Heap → Prop} {fuel : Nat} {listed : Array Bool} {dst : Option Tmp} {op : Op} {ty : TypeId} {pos : String} {after : Array Edge} {k d : Nat} {want : Bool} (i : Nat) (hi : ops[i]? = some ⟨dst, op, ty, pos, after, some (k, want)⟩) (hk : (ops[k]?).bind (·.dst) = some d) (hv : look t d = some (.bool !want)) (hr : Region.ready .any ops listed = [i]) (hd : fits N dst = true)
    (hF : ∀ i, Live ops loud i listed → F i H) (h : An G P N ops loud F Q fuel (listed.setIfInBounds i true) (put t dst undef) H) : An G P N ops loud F Q (fuel + 1) listed t H :=
  ⟨fun a ha => ⟨hF, fun h0 => (by rw [h0] at hr; cases hr), fun j hj => by
    rw [hr] at hj
    obtain rfl : j = i := by simpa using hj
    unfold OpK
    simp only [hi]
    rw [if_neg (by rw [wanted_of (o := ⟨dst, op, ty, pos, after, some (k, want)⟩) ha rfl hk hv]; simp)]
    exact h.go _ (ha.put hd undef)⟩⟩
theorem an_off_u {G : Base} {P : Program} {N : Nat} {Q : Post} {t : Tm} {H : Heap} {ops : Array Oper} {loud : Nat → Bool} {F : Nat → Heap → Prop} {fuel : Nat} {listed : Array Bool} {dst : Option Tmp} {op : Op} {ty : TypeId} {pos : String} {after : Array Edge} {j d : Nat} {want : Bool} (i : Nat) (hi : ops[i]? = some ⟨dst, op, ty, pos, after, some (j, want)⟩ := by exact rfl) (hj : (ops[j]?).bind (·.dst) = some d := by exact rfl) (hv : look t d = some undef := by exact rfl) (hl : loud i = false := by exact rfl) (hb : firstB ops listed i = true := by kernel_rfl) (hd : fits N dst = true := by exact rfl)
    (k : An G P N ops loud F Q fuel (listed.setIfInBounds i true) (put t dst undef) H) : An G P N ops loud F Q (fuel + 1) listed t H :=
  an_yield hi hl hb hd (fun _ ha => .inr ⟨wanted_undef (o := ⟨dst, op, ty, pos, after, some (j, want)⟩) ha rfl hj hv, rfl⟩) k
theorem an_split_on {G : Base} {P : Program} {N : Nat} {Q : Post} {t : Tm} {H : Heap} {ops : Array Oper} {loud : Nat → Bool} {F : Nat → Heap → Prop} {fuel : Nat} {listed : Array Bool} {dst : Option Tmp} {op : Op} {ty : TypeId} {pos : String} {after : Array Edge} {j d : Nat} {want b : Bool} (i : Nat) (hi : ops[i]? = some ⟨dst, op, ty, pos, after, some (j, want)⟩) (hj : (ops[j]?).bind (·.dst) = some d) (hv : look t d = some (.bool want)) (hl : loud i = false) (hb : firstB ops listed i = true) (hd : fits N dst = true)
    (hq : Qv G P (F i) ⟨dst, op, ty, pos, after, some (j, want)⟩ t (.bool b)) (h1 : b = true → An G P N ops loud F Q fuel (listed.setIfInBounds i true) (put t dst (.bool true)) H) (h2 : b = false → An G P N ops loud F Q fuel (listed.setIfInBounds i true) (put t dst (.bool false)) H) : An G P N ops loud F Q (fuel + 1) listed t H := by
  cases b with
  | true => exact an_on i hi hj hv hl hb hd hq (h1 rfl)
  | false => exact an_on i hi hj hv hl hb hd hq (h2 rfl)
/-! ## Short-circuits that meet again -/
section
variable {G : Base} {P : Program} {N : Nat} {Q : Post} {t : Tm} {H : Heap} {ops : Array Oper}
theorem upon_mono {o : Oper} {a : Act} {K K' : Act → World → Prop} {Q1 Q2 : Exit → Act → World → Prop} (hk : ∀ a w, K a w → K' a w) (hq : ∀ e a w, e ≠ .normal → Q1 e a w → Q2 e a w) {r : Result Next} (h : o.upon P a K Q1 r) : o.upon P a K' Q2 r := by
  have hl : LetsOut Q1 → LetsOut Q2 := fun ⟨a, w, h⟩ => ⟨a, w, hq _ _ _ (by simp) h⟩
  cases r with
  | ok n w =>
    cases n <;> simp only [Oper.upon] at h ⊢
    case value => exact hk _ _ h
    case skip => exact hk _ _ h
    case defer => exact hk _ _ h
    case enter =>
      refine h.mono fun e w' he => ?_
      cases e with
      | returned v => exact hk _ _ he
      | panicked ch => exact hq _ _ _ (by simp) he
      | outgrown => exact hl he
    case row => exact h.mono fun v w' he => hk _ _ he
  | halt x w =>
    cases x <;> simp only [Oper.upon] at h ⊢
    all_goals exact hq _ _ _ (by simp) h
theorem wpList_app {Q1 Q2 : Exit → Act → World → Prop} (hq : ∀ e a w, e ≠ .normal → Q1 e a w → Q2 e a w) {l2 : List Oper} : ∀ (l1 : List Oper) (a : Act) (w : World), wpList P ops Q1 l1 a w → (∀ a w, Q1 .normal a w → wpList P ops Q2 l2 a w) → wpList P ops Q2 (l1 ++ l2) a w
  | [], a, w, h, hn => hn _ _ h
  | o :: l1, a, w, h, hn => by
    rw [List.cons_append]
    unfold wpList at h ⊢
    split at h
    · rename_i hw
      rw [if_pos hw]
      rcases h with h | ⟨h1, a', w', h2⟩
      · exact .inl (upon_mono (fun a w hk => wpList_app hq l1 a w hk hn) hq h)
      · exact .inr ⟨h1, a', w', hq _ _ _ (by simp) h2⟩
    · rename_i hw
      rw [if_neg hw]
      exact wpList_app hq l1 _ _ h hn
/-- The end of a stretch of operations that leaves one value and the heap as it was. -/
def EndQ (t' : Tm) (H : Heap) : Post := fun e t1 H1 => e = .normal ∧ H1 = H ∧ Sub t' t1
theorem o_seg (n : Nat) (t' : Tm) {l : List Oper} (h : O G P N ops (l.take n) (EndQ t' H) t H) (k : O G P N ops (l.drop n) Q t' H) : O G P N ops l Q t H := by
  refine ⟨fun a w ha hw => ?_⟩
  rw [← List.take_append_drop n l]
  refine wpList_app (Q1 := up G N (EndQ t' H)) ?_ _ _ _ (h.go a w ha hw) ?_
  · rintro e a w hne ⟨t1, H1, _, _, he, _⟩; exact absurd he hne
  · rintro a w ⟨t1, H1, h1, h2, _, rfl, h4⟩
    exact k.go a w (h1.sub h4) h2
theorem Sub.skp {t t1 : Tm} {d : Nat} {v : Value} (h : look t d = none) (hs : Sub t t1) : Sub t ((d, v) :: t1) := by
  intro n u hn
  simp only [look]
  cases hb : Nat.beq d n with
  | true =>
    obtain rfl := Nat.eq_of_beq_eq_true hb
    rw [h] at hn; cases hn
  | false => exact hs n u hn
/-- The end of such a stretch. -/
theorem edq {t1 t' : Tm} {d : Tmp} {v u : Value} (h : look t1 d = some u := by exact rfl) (hv : u = v := by exact rfl) (hs : Sub t' t1 := by (repeat (first | exact Sub.refl | refine Sub.skp (by exact rfl) ?_))) : EndQ ((d, v) :: t') H .normal t1 H := ⟨rfl, rfl, .cons (hv ▸ h) hs⟩
theorem sg_and {l : List Oper} (n : Nat) (d : Tmp) {gd : Tmp} {b c : Bool} {p : Prop} (n1 : b = true → p := by intro h; first | (simp only [decide_eq_true_eq, decide_eq_false_iff_not, Bool.not_eq_true', Bool.not_eq_false', Bool.and_eq_true, Bool.or_eq_true, Bool.or_eq_false_iff, Bool.and_eq_false_iff, ne_eq, Decidable.not_not] at h; exact h) | exact h)
    (m : O G P N ops (l.take n) (EndQ ((d, .bool false) :: t) H) ((gd, .bool false) :: t) H := by (repeat (first | exact o_nil edq | refine o_off rfl rfl rfl ?_ | refine o_off_u rfl rfl rfl ?_ | refine o_ev (ev_pick_f rfl rfl) rfl ?_ | refine o_on_ev rfl rfl rfl (ev_pick_f rfl rfl) ?_)))
    (k : p → O G P N ops (l.take n) (EndQ ((d, .bool c) :: t) H) ((gd, .bool true) :: t) H)
    (q : O G P N ops (l.drop n) Q ((d, .bool (b && c)) :: t) H) : O G P N ops l Q ((gd, .bool b) :: t) H := by
  refine o_seg n _ ?_ q
  cases hb : b with
  | true => rw [Bool.true_and]; exact k (n1 hb)
  | false => rw [Bool.false_and]; exact m
theorem sg_or {l : List Oper} (n : Nat) (d : Tmp) {gd : Tmp} {b c : Bool} {p : Prop} (n1 : b = false → p := by intro h; first | (simp only [decide_eq_true_eq, decide_eq_false_iff_not, Bool.not_eq_true', Bool.not_eq_false', Bool.and_eq_true, Bool.or_eq_true, Bool.or_eq_false_iff, Bool.and_eq_false_iff, ne_eq, Decidable.not_not] at h; exact h) | exact h)
    (m : O G P N ops (l.take n) (EndQ ((d, .bool true) :: t) H) ((gd, .bool true) :: t) H := by (repeat (first | exact o_nil edq | refine o_off rfl rfl rfl ?_ | refine o_off_u rfl rfl rfl ?_ | refine o_ev (ev_pick_t rfl rfl) rfl ?_ | refine o_on_ev rfl rfl rfl (ev_pick_t rfl rfl) ?_)))
    (k : p → O G P N ops (l.take n) (EndQ ((d, .bool c) :: t) H) ((gd, .bool false) :: t) H)
    (q : O G P N ops (l.drop n) Q ((d, .bool (b || c)) :: t) H) : O G P N ops l Q ((gd, .bool b) :: t) H := by
  refine o_seg n _ ?_ q
  cases hb : b with
  | true => rw [Bool.true_or]; exact m
  | false => rw [Bool.false_or]; exact k (n1 hb)
/-- A frame without what is assigned anew. -/
def wo (ks : List Nat) : Tm → Tm
  | [] => []
  | (n, v) :: t => bif ks.elem n then wo ks t else (n, v) :: wo ks t
theorem wo_look {ks : List Nat} {t : Tm} {n : Nat} {v : Value} (h : look (wo ks t) n = some v) : ks.elem n = false ∧ look t n = some v := by
  induction t with
  | nil => cases h
  | cons p t ih =>
    obtain ⟨m, u⟩ := p
    simp only [wo] at h
    cases hm : ks.elem m with
    | true =>
      rw [hm] at h
      obtain ⟨h1, h2⟩ := ih h
      refine ⟨h1, ?_⟩
      simp only [look]
      cases hb : Nat.beq m n with
      | true => obtain rfl := Nat.eq_of_beq_eq_true hb; rw [hm] at h1; cases h1
      | false => exact h2
    | false =>
      rw [hm] at h
      simp only [cond_false, look] at h ⊢
      cases hb : Nat.beq m n with
      | true => obtain rfl := Nat.eq_of_beq_eq_true hb; rw [hb] at h; exact ⟨hm, h⟩
      | false => rw [hb] at h; exact ih h
theorem wo_base {ks : List Nat} {t : Tm} : Sub (wo ks t) t := fun _ _ h => (wo_look h).2
theorem wo_skip {ks : List Nat} {t t1 : Tm} {d : Nat} {v : Value} (h : ks.elem d = true) (hs : Sub (wo ks t) t1) : Sub (wo ks t) ((d, v) :: t1) := by
  intro n u hn
  simp only [look]
  cases hb : Nat.beq d n with
  | true =>
    obtain rfl := Nat.eq_of_beq_eq_true hb
    rw [(wo_look hn).1] at h; cases h
  | false => exact hs n u hn
theorem look_app (g r : Tm) (n : Nat) : look (g ++ r) n = match look g n with | some v => some v | none => look r n := by
  induction g with
  | nil => rfl
  | cons p g ih =>
    obtain ⟨m, u⟩ := p
    simp only [List.cons_append, look]
    cases Nat.beq m n with
    | true => rfl
    | false => simp only [cond_false]; exact ih
theorem Sub.app {g r t1 : Tm} (hg : Sub g t1) (hr : Sub r t1) : Sub (g ++ r) t1 := by
  intro n v hn
  rw [look_app] at hn
  cases hk : look g n with
  | some w => rw [hk] at hn; exact hg n v (by rw [hk]; exact hn)
  | none => rw [hk] at hn; exact hr n v hn
/-- The ways of a piece of code meet again behind it. -/
def JoinQ (F : Tm) (H2 : Heap) (Q : Post) : Post := fun e t1 H1 => match e with
  | .normal => Sub F t1 ∧ HSub H1 H2
  | e => Q e t1 H1
theorem w_join {x y : Code} (gs : Tm) (ks : List Nat) (H2 : Heap) (h : W G P N x (JoinQ (gs ++ wo ks t) H2 Q) t H) (k : W G P N y Q (gs ++ wo ks t) H2) : W G P N (.seq x y) Q t H :=
  w_seq (w_mono h fun e t1 H1 hq => by
    cases e with
    | normal => exact w_sub hq.1 (w_hsub hq.2 k)
    | _ => exact hq)
theorem w_join0 {x y : Code} (gs : Tm) (ks : List Nat) (h : W G P N x (JoinQ (gs ++ wo ks t) H Q) t H) (k : W G P N y Q (gs ++ wo ks t) H) : W G P N (.seq x y) Q t H := w_join gs ks H h k
/-- The ways meet again in a frame and a heap that a ghost tells. -/
def JoinE {α : Type} (F : α → Tm) (hp : α → Heap) (p : α → Prop) (Q : Post) : Post := fun e t1 H1 => match e with
  | .normal => ∃ a, Sub (F a) t1 ∧ HSub H1 (hp a) ∧ p a
  | e => Q e t1 H1
theorem w_joinE {x y : Code} (α : Type) (p : α → Prop) (gs : α → Tm) (ks : List Nat) (hp : α → Heap) (hc : Heap) (h : W G P N x (JoinE (fun a => gs a ++ wo ks t) (fun a => hp a ++ hc) p Q) t H) (k : ∀ a, p a → W G P N y Q (gs a ++ wo ks t) (hp a ++ hc)) : W G P N (.seq x y) Q t H :=
  w_seq (w_mono h fun e t1 H1 hq => by
    cases e with
    | normal => obtain ⟨a, h1, h2, h3⟩ := hq; exact w_sub h1 (w_hsub h2 (k a h3))
    | _ => exact hq)
theorem w_joinE0 {x y : Code} (α : Type) (p : α → Prop) (gs : α → Tm) (ks : List Nat) (h : W G P N x (JoinE (fun a => gs a ++ wo ks t) (fun _ => [] ++ H) p Q) t H) (k : ∀ a, p a → W G P N y Q (gs a ++ wo ks t) H) : W G P N (.seq x y) Q t H := w_joinE α p gs ks (fun _ => []) H h k
theorem jnE {α : Type} {p : α → Prop} {gs : α → Tm} {ks : List Nat} {hp : α → Heap} {hc : Heap} {t0 t1 : Tm} {H1 : Heap} (a : α) (hs : Sub (gs a) t1 := by ((try dsimp only); (repeat (first | exact Sub.nil | apply Sub.cons (by exact rfl))))) (hr : Sub (wo ks t0) t1 := by (repeat (first | exact wo_base | apply wo_skip (by exact rfl)))) (hh : HSub H1 (hp a ++ hc) := by (try dsimp only [List.cons_append, List.nil_append]); exact hsb) (q : p a) : JoinE (fun a => gs a ++ wo ks t0) (fun a => hp a ++ hc) p Q .normal t1 H1 := ⟨a, .app hs hr, hh, q⟩
theorem jeE {α : Type} {F : α → Tm} {hp : α → Heap} {p : α → Prop} {id : Nat} {t1 : Tm} {H1 : Heap} (h : Q (.exit id) t1 H1) : JoinE F hp p Q (.exit id) t1 H1 := h
theorem jrE {α : Type} {F : α → Tm} {hp : α → Heap} {p : α → Prop} {t1 : Tm} {H1 : Heap} (h : Q .ret t1 H1) : JoinE F hp p Q .ret t1 H1 := h
theorem jb {a b : Bool} (h : a = b) : some (Value.bool a) = some (Value.bool b) := h ▸ rfl
theorem jne {gs : Tm} {ks : List Nat} {t0 t1 : Tm} {H1 H2 : Heap} (hs : Sub gs t1 := by (repeat (first | exact Sub.nil | apply Sub.cons (by exact rfl)))) (hr : Sub (wo ks t0) t1 := by (repeat (first | exact wo_base | apply wo_skip (by exact rfl)))) (hh : HSub H1 H2 := by exact hsb) : JoinQ (gs ++ wo ks t0) H2 Q .normal t1 H1 := ⟨.app hs hr, hh⟩
theorem je_ {F : Tm} {H2 : Heap} {id : Nat} {t1 : Tm} {H1 : Heap} (h : Q (.exit id) t1 H1) : JoinQ F H2 Q (.exit id) t1 H1 := h
theorem jr_ {F : Tm} {H2 : Heap} {t1 : Tm} {H1 : Heap} (h : Q .ret t1 H1) : JoinQ F H2 Q .ret t1 H1 := h
theorem cpa_ {dst : Option Tmp} {ty : TypeId} {pos : String} {after : Array Edge} {l : List Oper} {v : Value} {f : FuncId} {xs : List Operand} {ats : Array TypeId} {vs : List Value} {H2 : Heap} (hx : evos t xs = some vs := by exact rfl) (hc : SC G P f vs H (fun u H' => u = v ∧ H' = H2)) (hd : fits N dst = true := by exact rfl) (k : O G P N ops l Q (put t dst v) H2) :
    O G P N ops (⟨dst, .call ⟨.value (.func f), xs.toArray, ats⟩, ty, pos, after, none⟩ :: l) Q t H := o_st (st_call hx hc) hd (by rintro _ _ ⟨rfl, rfl⟩; exact k)
theorem cpg_ {dst : Option Tmp} {ty : TypeId} {pos : String} {after : Array Edge} {l : List Oper} {v : Value} {j d : Nat} {want : Bool} {f : FuncId} {xs : List Operand} {ats : Array TypeId} {vs : List Value} {H2 : Heap} (hx : evos t xs = some vs := by exact rfl) (hc : SC G P f vs H (fun u H' => u = v ∧ H' = H2)) (hj : (ops[j]?).bind (·.dst) = some d := by exact rfl) (hv : look t d = some (.bool want) := by exact rfl) (hd : fits N dst = true := by exact rfl) (k : O G P N ops l Q (put t dst v) H2) :
    O G P N ops (⟨dst, .call ⟨.value (.func f), xs.toArray, ats⟩, ty, pos, after, some (j, want)⟩ :: l) Q t H := o_on hj hv hd (st_call hx hc) (by rintro _ _ ⟨rfl, rfl⟩; exact k)
theorem vb {a b : Bool} (h : a = true ↔ b = true) : Value.bool a = Value.bool b := congrArg _ (Bool.eq_iff_iff.2 h)
theorem bq {a b : Bool} (h : a = true ↔ b = true) : a = b := Bool.eq_iff_iff.2 h
end
end Go.Sx
