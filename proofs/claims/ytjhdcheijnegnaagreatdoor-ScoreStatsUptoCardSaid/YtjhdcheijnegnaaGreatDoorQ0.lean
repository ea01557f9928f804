import Derived.KernelRfl
import Derived.Calls
import Derived.Tactics
import Derived.Orders
import Derived.Still
set_option linter.all false
set_option maxHeartbeats 0
namespace Go.Sx
open Go
theorem Za {p : Prop} [Decidable p] : (decide p = true) = p := decide_eq_true_eq
theorem Zb {p : Prop} [Decidable p] : decide p = false ↔ ¬p := decide_eq_false_iff_not
theorem Zc (b : Bool) : ((!b) = true) = (b = false) := Bool.not_eq_true' b
theorem Zd (b : Bool) : ((!b) = false) = (b = true) := Bool.not_eq_false' b
theorem Ze (a b : Bool) : ((a && b) = true) = (a = true ∧ b = true) := Bool.and_eq_true a b
theorem Zf (a b : Bool) : ((a || b) = true) = (a = true ∨ b = true) := Bool.or_eq_true a b
theorem Zg {α : Type} (a b : α) : (a ≠ b) = ¬(a = b) := ne_eq a b
theorem Zh {p : Prop} [Decidable p] : ¬¬p ↔ p := Decidable.not_not
theorem Ya {α : Type} {a b : List α} : (a ++ b).length = a.length + b.length := List.length_append
theorem Yb {α : Type} {a : α} {l : List α} : (a :: l).length = l.length + 1 := rfl
theorem Yc {α : Type} : ([] : List α).length = 0 := rfl
theorem Yd {α : Type} {a : α} {l m : List α} : (a :: l) ++ m = a :: (l ++ m) := rfl
theorem Ye {α : Type} (l : List α) : [] ++ l = l := rfl
theorem Yf {α : Type} (a b c : List α) : a ++ b ++ c = a ++ (b ++ c) := List.append_assoc a b c
theorem Yg {α : Type} {n : Nat} {l : List α} : (l.take n).length = min n l.length := List.length_take
theorem Yh {α β : Type} {l : List α} (f : α → β) : (l.map f).length = l.length := List.length_map f
theorem Yi {α : Type} {l : List α} {i : Nat} (h : i < l.length) : l[i]? = some l[i] := List.getElem?_eq_getElem h
theorem Yj {α : Type} {l : List α} {i : Nat} {a : α} (h : l[i]? = some a) : a ∈ l := List.mem_of_getElem? h
theorem Yk {α : Type} {l : List α} {i : Nat} {a : α} : l[i]? = some a ↔ ∃ h : i < l.length, l[i] = a := List.getElem?_eq_some_iff
theorem Yl (n : Nat) : 0 ≤ n := Nat.zero_le n
theorem Ym {α : Type} (l : List α) : l ++ [] = l := List.append_nil l
theorem Yo {α : Type} {i : Nat} {l : List α} : (l.drop i).length = l.length - i := List.length_drop
theorem Yp {α : Type} {n : Nat} {l : List α} {a : α} (h : a ∈ l.drop n) : a ∈ l := List.mem_of_mem_drop h
theorem Yq {α : Type} {n : Nat} {l : List α} {a : α} (h : a ∈ l.take n) : a ∈ l := List.mem_of_mem_take h
theorem Yr {p : Prop} [Decidable p] (h : ¬p) : decide p = false := decide_eq_false h
theorem Ys {p : Prop} [Decidable p] (h : p) : decide p = true := decide_eq_true h
theorem Yt {p : Prop} [Decidable p] (h : decide p = true) : p := of_decide_eq_true h
theorem Yu {α : Type} {a b : List α} {i : Nat} (h : a.length ≤ i) : (a ++ b)[i]? = b[i - a.length]? := List.getElem?_append_right h
theorem Yv {α : Type} {a b : List α} {i : Nat} (h : i < a.length) : (a ++ b)[i]? = a[i]? := List.getElem?_append_left h
theorem Yx {α : Type} {a : α} (l : List α) {m : List α} (h : a ∈ m) : a ∈ l ++ m := List.mem_append_right l h
theorem Yy {α : Type} {a : α} {l : List α} (m : List α) (h : a ∈ l) : a ∈ l ++ m := List.mem_append_left m h
theorem Yz {α : Type} {a : α} {l : List α} : a ∈ a :: l := List.mem_cons_self
theorem Xa {α : Type} (y : α) {a : α} {l : List α} (h : a ∈ l) : a ∈ y :: l := List.mem_cons_of_mem y h
theorem Xb {α : Type} {a : α} {l : List α} : (a :: l)[0]? = some a := rfl
theorem Xc {α : Type} {a : α} {l : List α} {i : Nat} : (a :: l)[i + 1]? = l[i]? := rfl
theorem Xd {α β : Type} {f : α → β} {l : List α} {i : Nat} : (l.map f)[i]? = l[i]?.map f := List.getElem?_map
theorem Xe {α : Type} {n : Nat} {a : α} : (List.replicate n a).length = n := List.length_replicate
theorem Xh {α : Type} {l : List α} {i j : Nat} : (l.drop i)[j]? = l[i + j]? := List.getElem?_drop
theorem Xi {a b c : Nat} (h : a ≤ b) (k : b ≤ c) : a ≤ c := Nat.le_trans h k
abbrev Xj:=@Nat.le_refl
abbrev Xk:=@List.take_length
abbrev Xl:=@List.mem_append
abbrev Xm:=@List.getD_eq_getElem?_getD
abbrev Xn:=@List.map_cons
abbrev Xo:=@Option.some.inj
abbrev Xp:=@Bool.false_eq_true
abbrev Xq:=@List.take_of_length_le
abbrev Xr:=@List.mem_cons
abbrev Xs:=@decide_eq_true_eq
abbrev Xt:=@Nat.mod_eq_of_lt
abbrev Xu:=@Bool.and_eq_true
abbrev Xv:=@List.take_append_drop
abbrev Xw:=@List.mem_map
abbrev Xx:=@decide_eq_false_iff_not
abbrev Xy:=@List.drop_left
abbrev Xz:=@List.getElem?_take_of_lt
abbrev Va:=@List.map_append
abbrev Vb:=@List.eq_nil_of_length_eq_zero
abbrev Vc:=@Nat.mul_le_mul_right
abbrev Vd:=@Option.map_some
abbrev Ve:=@List.getElem?_eq_none
abbrev Vf:=@Nat.zero_add
abbrev Vg:=@Nat.add_mul
abbrev Vh:=@Array.getElem?_eq_some_iff
abbrev Vi:=@List.drop_zero
abbrev Vj:=@List.take_succ_cons
abbrev Vk:=@Nat.min_eq_left
abbrev Vl:=@Nat.lt_of_le_of_lt
abbrev Vm:=@List.drop_drop
abbrev Vn:=@List.sum_cons
abbrev Vo:=@Bool.and_eq_false_iff
abbrev Vp:=@List.flatMap_cons
abbrev Vq:=@Bool.not_eq_true'
abbrev Vs:=@Nat.div_le_self
abbrev Vt:=@Bool.true_and
abbrev Vu:=@List.ext_getElem?
abbrev Vv:=@List.getElem?_toArray
abbrev Vw:=@Nat.sub_self
abbrev Vx:=@Nat.pow_le_pow_right
abbrev Vy:=@List.mem_iff_getElem?
abbrev Vz:=@Nat.add_assoc
abbrev Ua:=@List.take_add_one
abbrev Ub:=@Bool.or_eq_true
abbrev Uc:=@Nat.eq_zero_or_pos
abbrev Ud:=@Nat.pow_add
abbrev Ue:=@Bool.or_eq_false_iff
abbrev Uf:=@List.getElem?_of_mem
abbrev Ug:=@Nat.mul_comm
abbrev Uh:=@List.map_toArray
abbrev Ui:=@List.mem_singleton
abbrev Uj:=@Nat.add_sub_cancel
abbrev Uk:=@List.pairwise_cons
abbrev Ul:=@List.map_nil
abbrev Um:=@Nat.mod_lt
abbrev Un:=@Nat.mul_assoc
abbrev Uo:=@Bool.not_eq_false'
abbrev Up:=@Nat.not_lt_zero
abbrev Uq:=@Nat.lt_or_eq_of_le
abbrev Ur:=@Nat.add_zero
abbrev Us:=@List.drop_of_length_le
abbrev Ut:=@List.map_map
abbrev Uu:=@List.drop_eq_nil_of_le
abbrev Uv:=@Int.toNat_natCast
abbrev Uw:=@Array.getElem?_append_left
abbrev Ux:=@List.mem_map_of_mem
abbrev Uy:=@List.replicate_succ
abbrev Uz:=@List.getElem?_set_self
abbrev X0:=@Nat.mul_add
abbrev X1:=@Nat.pos_of_ne_zero
abbrev X2:=@Nat.eq_of_beq_eq_true
abbrev X3:=@List.getElem?_range
abbrev X4:=@List.drop_length
abbrev X5:=@Decidable.not_not
abbrev X6:=@Array.getElem?_setIfInBounds
abbrev X7:=@List.mem_flatMap
abbrev X8:=@Nat.or_lt_two_pow
abbrev X9:=@Nat.le_of_lt_succ
abbrev V0:=@Nat.add_sub_cancel_left
abbrev V1:=@Bool.not_false
abbrev V2:=@List.getElem?_set_ne
abbrev V3:=@List.take_left
abbrev V4:=@List.getElem?_mapIdx
abbrev V5:=@List.all_eq_true
abbrev V6:=@Nat.and_two_pow_sub_one_eq_mod
abbrev V7:=@List.drop_succ_cons
abbrev V8:=@Nat.mul_le_mul_left
abbrev V9:=@List.length_singleton
abbrev U0:=@Option.getD_some
abbrev U1:=@List.set_eq_take_append_cons_drop
abbrev U2:=@List.getElem?_set
abbrev U3:=@List.nodup_cons
abbrev U4:=@Bool.eq_iff_iff
abbrev U5:=@Nat.two_pow_pos
abbrev U6:=@List.range_succ
abbrev U7:=@Array.getElem?_toList
abbrev U8:=@List.set_append_right
abbrev U9:=@Nat.lt_or_ge
abbrev T0:=@Nat.pow_lt_pow_iff_right
abbrev T1:=@List.pairwise_append
abbrev T4:=@List.getElem?_inj
abbrev T5:=@List.length_range
abbrev T6:=@List.length_set
abbrev T7:=@List.set_append
abbrev T8:=@List.map_congr_left
abbrev T9:=@Nat.pow_succ
abbrev S0:=@Nat.sub_zero
abbrev S1:=@Nat.two_pow_add_eq_or_of_lt
abbrev S2:=@Nat.div_div_eq_div_mul
abbrev S3:=@Bool.not_true
abbrev S4:=@List.not_mem_nil
abbrev S5:=@Nat.lt_of_lt_of_le
abbrev S6:=@List.set_cons_zero
abbrev S7:=@Option.toList_some
abbrev S8:=@List.take_zero
abbrev S9:=@List.cons_lt_cons_iff
abbrev R0:=@List.eq_nil_or_concat
abbrev R4:=@List.pairwise_iff_getElem
abbrev R5:=@List.nodup_append
abbrev R6:=@Nat.mul_one
abbrev R7:=@Nat.lt_irrefl
abbrev R8:=@List.drop_take
abbrev R9:=@List.take_take
abbrev Q0:=@Nat.xor_lt_two_pow
abbrev Q3:=@Array.ext_getElem?
abbrev Q4:=@Nat.sub_add_cancel
abbrev Q5:=@Nat.add_comm
abbrev Q6:=@List.map_set
abbrev Q7:=@List.getElem?_take
abbrev Q8:=@Nat.div_add_mod
abbrev Q9:=@List.mem_filter
abbrev P0:=@Nat.xor_assoc
abbrev P5:=@List.map_id
theorem BL {a b : Nat} (h : Nat.ble a b = true := by rfl) : a ≤ b := Nat.le_of_ble_eq_true h
theorem a8 {p : Prop} (h : p := by first | omega | (dsimp only; omega)) : p := h
theorem aa {p : Prop} (h : p := by kernel_rfl) : p := h
theorem ab {p : Prop} (h : p := by first | exact cR 18446744073709551616 rfl rfl rfl _ rfl (by omega) | exact dk 18446744073709551616 rfl rfl rfl _ rfl) : p := h
theorem ae {p : Prop} (h : p := by decide) : p := h
theorem af {p : Prop} (h : p := by first | omega | (simp only [Ya, Yb, Yc]; omega) | (simp; omega)) : p := h
theorem ag {p : Prop} (h : p := by subst hi; first | infer_instance | exact ⟨inferInstance, inferInstance, inferInstance⟩ | exact ⟨inferInstance, inferInstance⟩) : p := h
theorem ah {p : Prop} (h : p := by subst hi; first | infer_instance | exact hn2.sl inferInstance) : p := h
theorem ai {p : Prop} (h : p := by simp only [Ya]; omega) : p := h
theorem aj {p : Prop} (h : p := by first | decide | omega) : p := h
theorem ak {p : Prop} (h : p := by simp) : p := h
theorem al {p : Prop} (h : p := by rw [hI, show kT i c = false from Yr (by omega)]; rfl) : p := h
theorem an {p : Prop} (h : p := by show _ ≤ (9223372036854775807 : Int); omega) : p := h
theorem ao {p : Prop} (h : p := by decide +kernel) : p := h
theorem aq {p : Prop} (h : p := by first | decide | (show _ ≤ 64; omega)) : p := h
theorem ar {p : Prop} (h : p := by rw [Yg]; omega) : p := h
theorem au {p : Prop} (h : p := by first | exact cR 4294967296 rfl rfl rfl _ rfl (by omega) | exact dk 4294967296 rfl rfl rfl _ rfl) : p := h
theorem aw {p : Prop} (h : p := by have hN := hH.1 rfl; exact ldv) : p := h
theorem ax {p : Prop} (h : p := by simp only [Op.equalIn, Sem.run_bind, cS (T := T), Result.andThen_ok, Sem.run_pure]) : p := h
theorem ay {p : Prop} (h : p := by subst hi; infer_instance) : p := h
theorem az {p : Prop} (h : p := by have h9 := h1; omega) : p := h
theorem aA {p : Prop} (h : p := by unfold fY; rw [if_neg (by omega), if_pos (by omega)]; simp_all [nq]) : p := h
theorem aB {p : Prop} (h : p := by subst hi; exact iR (by kernel_rfl)) : p := h
theorem aC {p : Prop} (h : p := by rw [Ya]; omega) : p := h
theorem aD {p : Prop} (h : p := by subst hi; first | infer_instance | exact dj hsb hsl) : p := h
theorem aE {p : Prop} (h : p := by have hN := hH.2.1 rfl; exact ldv) : p := h
theorem aG {p : Prop} (h : p := by simp only [B64]; omega) : p := h
theorem aH {p : Prop} (h : p := by simp; omega) : p := h
theorem aI {p : Prop} (h : p := by simp at h) : p := h
theorem aJ {p : Prop} (h : p := by simp only [Yf]; exact (h6.append_left L3).append_left L1) : p := h
theorem aK {p : Prop} (h : p := by rw [Vg]; omega) : p := h
theorem aL {p : Prop} (h : p := by have h9 := h2; omega) : p := h
theorem aM {p : Prop} (h : p := by first | exact cR 256 rfl rfl rfl _ rfl (by omega) | exact dk 256 rfl rfl rfl _ rfl) : p := h
theorem aO {p : Prop} (h : p := by simp [execOp, hρ _ _ hx, hρ _ _ hy, eqGuard, binOp, Op.intCmp]) : p := h
theorem aP {p : Prop} (h : p := by simpa using hl) : p := h
theorem aQ {p : Prop} (h : p := by first | rfl | omega) : p := h
theorem aR {p : Prop} (h : p := by rw [Yo, Yg]; omega) : p := h
theorem aT {p : Prop} (h : p := by simp at h; subst h; rfl) : p := h
theorem aU {p : Prop} (h : p := by cases h) : p := h
theorem aV {p : Prop} (h : p := by have hN := hH.2 rfl; exact ldv) : p := h
theorem aW {p : Prop} (h : p := by have hN := hH.1 rfl; exact lds) : p := h
theorem aX {p : Prop} (h : p := by assumption) : p := h
theorem aY {p : Prop} (h : p := by first | omega | (simp; omega)) : p := h
theorem bf {p : Prop} (h : p := by have := kL (fun p hp => (hsm.2 p hp).1) x hx; omega) : p := h
theorem bj {p : Prop} (h : p := by rw [Yo]; omega) : p := h
theorem bm {p : Prop} (h : p := by rw [hI, jK, hor, Xt (by omega)]; rfl) : p := h
theorem bn {p : Prop} (h : p := by simp [Region.wanted]) : p := h
theorem bu {p : Prop} (h : p := by simp [execOp, hρ _ _ hx, hρ _ _ hy, eqGuard, binOp, Op.intArith, ie h]) : p := h
theorem bz {p : Prop} (h : p := by unfold hU; rw [Yr (by omega)]; rfl) : p := h
theorem bA {p : Prop} (h : p := by rfl) : p := h
theorem bB {p : Prop} (h : p := by have hN := hH.1 rfl; exact fla) : p := h
theorem bC {p : Prop} (h : p := by rw [e.len]; omega) : p := h
theorem bD {p : Prop} (h : p := by rw [Uh, jY hρ hx]) : p := h
theorem bE {p : Prop} (h : p := by unfold fW; rw [Yr (by omega)]; rfl) : p := h
theorem bF {p : Prop} (h : p := by rw [Ya, Yo]; omega) : p := h
theorem bG {p : Prop} (h : p := by simp only; omega) : p := h
theorem bH {p : Prop} (h : p := by rw [h0] at hr; cases hr) : p := h
theorem bI {p : Prop} (h : p := by obtain ⟨d, hd, rfl⟩ := Xw.1 hx; have := h.ids d hd; omega) : p := h
theorem bJ {p : Prop} (h : p := by rw [hT, hth]; rfl) : p := h
theorem bK {p : Prop} (h : p := by rw [iM, Yh]; omega) : p := h
theorem bL {p : Prop} (h : p := by rw [e.all_length, Yg, Vk (by omega)]) : p := h
theorem bM {p : Prop} (h : p := by simpa using h) : p := h
theorem bN {p : Prop} (h : p := by rw [Va]; rfl) : p := h
theorem bO {p : Prop} (h : p := by rw [fe, he]; simp only [Vm]; rw [hI]; rfl) : p := h
theorem bP {p : Prop} (h : p := by first | exact cK rfl | exact de rfl) : p := h
theorem bQ {p : Prop} (h : p := by cases b with | true => exact h1 rfl | false => exact h2 rfl) : p := h
theorem bR {p : Prop} (h : p := by have := pN (fun p hp => (hsm.2 p hp).2.1) x hx; omega) : p := h
theorem bS {p : Prop} (h : p := by obtain ⟨L1, L2, rfl, _, h2⟩ := hL; obtain ⟨E, fz, hm⟩ := h.out L2 h2; exact ⟨E, fz, Yx _ hm⟩) : p := h
theorem bT {p : Prop} (h : p := by first | decide | (show _ ≤ 32; omega)) : p := h
theorem bU {p : Prop} (h : p := by unfold fY; rw [if_neg (by omega), if_neg (by omega)]) : p := h
theorem bV {p : Prop} (h : p := by have := congrArg List.length hk.keys; simpa using this) : p := h
theorem bW {p : Prop} (h : p := by rw [hx4]; simp only [ne_eq, Option.some.injEq]; omega) : p := h
theorem bX {p : Prop} (h : p := by rw [gb]; omega) : p := h
theorem bY {p : Prop} (h : p := by rw [mq (by omega) (by omega) hkj hend]; rfl) : p := h
theorem bZ {p : Prop} (h : p := by have hN := hH.2.2.1 rfl; exact ldv) : p := h
theorem cc {p : Prop} (h : p := by rw [iq, ← hub, qY, hA, Yr (by omega), S3, Bool.or_false, cond_false]) : p := h
theorem cf {p : Prop} (h : p := by rw [Xe]; omega) : p := h
theorem cg {p : Prop} (h : p := by first | exact rfl | exact jb (by simp_all [lsC])) : p := h
theorem cj {p : Prop} (h : p := by have hN := hH.2.2 rfl; exact ldv) : p := h
theorem cm {p : Prop} (h : p := by rw [hl]; omega) : p := h
theorem cn {p : Prop} (h : p := by unfold dC; omega) : p := h
theorem cq {p : Prop} (h : p := by unfold fm; omega) : p := h
theorem cr {p : Prop} (h : p := by rw [IntKind.wrap_i64, IntKind.wrap_i64]; omega) : p := h
theorem cw {p : Prop} (h : p := by rw [T5]; omega) : p := h
theorem cx {p : Prop} (h : p := by first | exact rfl | exact jb (by simp_all)) : p := h
theorem cy {p : Prop} (h : p := by rw [lA (o := ⟨dst, op, ty, pos, after, some (k, want)⟩) ha rfl hk hv]; simp) : p := h
theorem cz {p : Prop} (h : p := by rw [lA (o := ⟨dst, op, ty, pos, after, some (j, want)⟩) ha rfl hj hv]; simp) : p := h
theorem cA {p : Prop} (h : p := by obtain ⟨h1, h2⟩ := h; obtain ⟨n, b, h3, h4⟩ := Fj h1; exact ⟨n, b, h3, h4, h2⟩) : p := h
theorem cB {p : Prop} (h : p := by rw [hI, hk]; simp) : p := h
theorem cC {p : Prop} (h : p := by simpa using h1) : p := h
theorem cD {p : Prop} (h : p := by have h := h6; simpa using h) : p := h
theorem cE {p : Prop} (h : p := by rw [Yg, ey]; omega) : p := h
section
variable {b:Nat}{o:Obj}{w:World}
structure cJ where
 os:Os
 tape:Nat→Question→Nat
 output:Array (Nat×ByteArray)
 eT:TypeId
 eb:Nat→Nat
 eo:Nat→Nat
structure Ar (G:cJ) (w:World):Prop where
 os:w.os=G.os
 tape:w.tape=G.tape
 output:w.output=G.output
abbrev mX:=List (Nat×Obj)
abbrev Hp:=mX→Prop
abbrev cG:=List Hp
def Sep:cG→mX→Prop
 | [],L=>L= []
 |A::H,L=>∃L1 L2,L=L1++L2∧A L1∧Sep H L2
structure ju (w:World) (L:mX):Prop where
 nodup:(L.map (·.1)).Nodup
 at_:∀x∈L,w.heap[x.1]? =some x.2
def Sat (G:cJ) (w:World) (H:cG):Prop:=Ar G w∧∃L,Sep H L∧ju w L
def Pt (b:Nat) (o:Obj):Hp:=λL=>L= [(b,o)]
theorem Sat.same {G:cJ}{w':World}{H:cG}(h:Sat G w H) (hh:w'.heap=w.heap) (hs:Ar G w'):Sat G w' H:=by
 obtain⟨_,L,hL,hl⟩:=h;exact⟨hs,L,hL,hl.nodup,by rw[hh];exact hl.at_⟩
theorem Sat.drop {G:cJ}{w:World}{A:Hp}{H:cG}(h:Sat G w (A::H)):Sat G w H:=by
 obtain⟨hs,L,⟨L1,L2,rfl,_,hL2⟩,hl⟩:=h
 refine⟨hs,L2,hL2,?_,λx hx=>hl.at_ x (Yx _ hx)⟩
 have:=hl.nodup
 rw[Va]at this
 exact(R5.1 this).2.1
theorem Sat.cons {G:cJ}{A B:Hp}{H:cG}(h:Sat G w (A::H)) (a:∀L,A L→B L):Sat G w (B::H):=by
 obtain⟨c,L,⟨L1,L2,rfl,h1,b⟩,hl⟩:=h;exact⟨c,_,⟨L1,L2,rfl,a _ h1,b⟩,hl⟩
theorem Sat.imp {G:cJ}{H H':cG}(h:Sat G w H) (b:∀L,Sep H L→∃a,Sep H' a∧(a.Sublist L∨a.Perm L)):Sat G w H':=by
 obtain⟨d,L,hL,hl⟩:=h;obtain⟨a,c,hp⟩:=b L hL;refine⟨d,a,c,?_,?_⟩
 ·rcases hp with hp|hp
  ·exact(hp.map _).nodup hl.nodup
  ·exact((hp.map _).nodup_iff).2 hl.nodup
 ·intro x hx;rcases hp with hp|hp
  ·exact hl.at_ x (hp.subset hx)
  ·exact hl.at_ x (hp.mem_iff.1 hx)
theorem ju.lt {w:World}{L:mX}(h:ju w L) {x:Nat×Obj}(hx:x∈L):x.1<w.heap.size:=by
 have:=h.at_ x hx
 exact(Vh.1 this).1
theorem Sat.alloc {G:cJ}{w:World}{H:cG}(h:Sat G w H) (o:Obj):Sat G {w with heap:=w.heap.push o} (Pt w.heap.size o::H):=by
 obtain⟨hs,L,hL,hl⟩:=h
 refine⟨⟨hs.os,hs.tape,hs.output⟩,(w.heap.size,o)::L,⟨[(w.heap.size,o)],L,rfl,rfl,hL⟩,?_,?_⟩
 ·rw[Xn,U3]
  refine⟨λhm=>?_,hl.nodup⟩
  obtain⟨x,hx,he⟩:=Xw.1 hm
  have:=hl.lt hx
  simp only at he
  omega
 ·intro x hx
  rcases Xr.1 hx with rfl|hx
  ·simp
  ·have:=hl.lt hx
   have h2:=hl.at_ x hx
   simp only[Array.getElem?_push]
   rw[if_neg (by omega)]
   exact h2
theorem ju.change {w w':World}{L1 L2:mX}{b:Nat}{o o':Obj}(h:ju w (L1++(b,o)::L2)) (hb:w'.heap[b]? =some o')
 (hk:∀i,i≠b→i<w.heap.size→w'.heap[i]? =w.heap[i]?):ju w' (L1++(b,o')::L2):=by
 have hn:=h.nodup
 refine⟨by simpa using hn,λx hx=>?_⟩
 simp only[Va,Xn,R5,U3]at hn
 obtain⟨hn1,⟨hn2,hn3⟩,hn4⟩:=hn
 rcases Xl.1 hx with hx|hx
 ·have hm:x∈L1++(b,o)::L2:=Yy _ hx
  rw[hk x.1 (λhe=>hn4 x.1 (Ux hx) b (by simp) he) (h.lt hm)]
  exact h.at_ x hm
 ·rcases Xr.1 hx with rfl|hx
  ·exact hb
  ·have hm:x∈L1++(b,o)::L2:=Yx _ (Xa _ hx)
   rw[hk x.1 (λhe=>hn2 (he ▸ Ux hx)) (h.lt hm)]
   exact h.at_ x hm
class Has (H:cG) (b:Nat) (o:outParam Obj):Prop where
 mem:∀L,Sep H L→(b,o)∈L
instance Has.tail {A:Hp}{H:cG}{b:Nat}{o:Obj} [h:Has H b o]:Has (A::H) b o:=
 ⟨λL hL=>by obtain⟨L1,L2,rfl,_,h2⟩:=hL;exact Yx _ (h.mem _ h2)⟩
instance Has.head {H:cG}{b:Nat}{o:Obj}:Has (Pt b o::H) b o:=
 ⟨λL hL=>by obtain⟨L1,L2,rfl,h1,_⟩:=hL;rw[show L1= [(b,o)]from h1];simp⟩
theorem Has.get {G:cJ}{H:cG}(h:Has H b o) (hs:Sat G w H):w.heap[b]? =some o:=by
 obtain⟨_,L,hL,hl⟩:=hs;exact hl.at_ _ (h.mem L hL)
class Foc (H:cG) {ι α:Type}(K:ι→α→Hp) (i:ι) (a:outParam α) (C:outParam (Hp→cG)):Prop where
 foc:∀L,Sep H L→∃L1 M L2,L=L1++(M++L2)∧K i a M∧∀(B:Hp) M',B M'→Sep (C B) (L1++(M'++L2))
instance Foc.tail {A:Hp}{H:cG}{ι α:Type}{K:ι→α→Hp}{i:ι}{a:α}{C:Hp→cG} [h:Foc H K i a C]:Foc (A::H) K i a (λB=>A::C B):=
 ⟨λL hL=>by
  obtain⟨N1,N2,rfl,hA,h2⟩:=hL
  obtain⟨L1,M,L2,rfl,hM,hB⟩:=h.foc _ h2
  refine⟨N1++L1,M,L2,ak,hM,λB M' hm=>⟨N1,L1++(M'++L2),ak,hA,hB B M' hm⟩⟩⟩
instance Foc.head {H:cG}{ι α:Type}{K:ι→α→Hp}{i:ι}{a:α}:Foc (K i a::H) K i a (λB=>B::H):=
 ⟨λL hL=>by
  obtain⟨L1,L2,rfl,h1,h2⟩:=hL
  exact⟨[],L1,L2,rfl,h1,λB M' hm=>⟨M',L2,rfl,hm,h2⟩⟩⟩
theorem Foc.sat {G:cJ}{H:cG}{ι α:Type}{K:ι→α→Hp}{i:ι}{a:α}{C:Hp→cG}(h:Foc H K i a C) (hs:Sat G w H) (B:Hp) (b:∀M,K i a M→B M):Sat G w (C B):=by
 obtain⟨c,L,hL,hl⟩:=hs;obtain⟨L1,M,L2,rfl,d,e⟩:=h.foc _ hL;exact⟨c,_,e B M (b M d),hl⟩
theorem Foc.get {G:cJ}{H:cG}{C:Hp→cG}(h:Foc H Pt b o C) (hs:Sat G w H):w.heap[b]? =some o:=by
 obtain⟨_,L,hL,hl⟩:=hs;obtain⟨L1,M,L2,rfl,a,_⟩:=h.foc _ hL;have hM':M= [(b,o)]:=a;subst hM';exact hl.at_ (b,o) ak
theorem Foc.change {G:cJ}{w':World}{H:cG}{o':Obj}{C:Hp→cG}(h:Foc H Pt b o C) (hs:Sat G w H) (c:Ar G w') (a:w'.heap[b]? =some o') (hk:∀i,i≠b→i<w.heap.size→w'.heap[i]? =w.heap[i]?):Sat G w' (C (Pt b o')):=by
 obtain⟨_,L,hL,hl⟩:=hs;obtain⟨L1,M,L2,rfl,d,e⟩:=h.foc _ hL;have hM':M= [(b,o)]:=d;subst hM';have:=e (Pt b o') [(b,o')] rfl;exact⟨c,_,this,by simpa using ju.change aP a hk⟩
abbrev Tm:=List (Nat×Value)
def look:Tm→Nat→Option Value
 | [],_=>none
 |(m,v)::t,n=>bif Nat.beq m n then some v else look t n
def evo (t:Tm):Operand→Option Value
 | .tmp n=>look t n
 | .const v=>some v
 | .global g=>some (.pointer (some ⟨g,0,none⟩))
 | .func f=>some (.func (.func f) #[] #[])
def oP (t:Tm):List Operand→Option (List Value)
 | []=>some []
 |x::xs=>match evo t x,oP t xs with
  |some v,some vs=>some (v::vs)
  |_,_=>none
structure Fr (N:Nat) (t:Tm) (a:Act):Prop where
 size:a.tmps.size=N
 defers:a.defers= []
 look:∀n v,look t n=some v→a.tmps[n]? =some v
def zb (t:Tm) (ρ:Operand→Value):Prop:=∀x v,evo t x=some v→ρ x=v
theorem Fr.agree {N:Nat}{t:Tm}{a:Act}(h:Fr N t a):zb t a.eval:=by
 intro x v hx
 cases x with
 |tmp n=>simp only[Act.eval,Array.getD_eq_getD_getElem?,h.look n v hx,U0]
 |const u=>exact Xo hx
 |global g=>exact Xo hx
 |func f=>exact Xo hx
def put (t:Tm):Option Tmp→Value→Tm
 |none,_=>t
 |some d,v=>(d,v)::t
def fC (N:Nat):Option Tmp→Bool
 |none=>true
 |some d=>Nat.blt d N
theorem Fr.put {N:Nat}{t:Tm}{a:Act}{d:Option Tmp}(h:Fr N t a) (hd:fC N d=true) (v:Value):Fr N (put t d v) (a.put d v):=by
 cases d with
 |none=>exact h
 |some d=>
  have hdN:d<N:=by simpa [fC] using hd
  refine⟨by simp[Act.put,h.size],h.defers,λn u hn=>?_⟩
  simp only[Sx.put,Sx.look]at hn
  simp only[Act.put,X6]
  by_cases e:d=n
  ·subst e
   simp at hn
   subst hn
   simp[h.size,hdN]
  ·have hb:Nat.beq d n=false:=by
    cases hb:Nat.beq d n with
    |false=>rfl
    |true=>exact absurd (X2 hb) e
   rw[hb]at hn
   rw[if_neg e]
   exact h.look n u hn
def Sub (t' t:Tm):Prop:=∀n v,look t' n=some v→look t n=some v
theorem Fr.sub {N:Nat}{t b:Tm}{a:Act}(h:Fr N t a) (hs:Sub b t):Fr N b a:=⟨h.size,h.defers,λn v c=>h.look n v (hs n v c)⟩
theorem Sub.nil {t:Tm}:Sub [] t:=λ_ _ h=>aU
theorem Sub.cons {t t':Tm}{n:Nat}{v:Value}(h:look t n=some v) (hs:Sub t' t):Sub ((n,v)::t') t:=by
 intro m u hm
 simp only[look]at hm
 cases hb:Nat.beq n m with
 |true=>
  rw[hb]at hm
  obtain rfl:=X2 hb
  simp at hm
  rw[←hm];exact h
 |false=>rw[hb]at hm;exact hs m u hm
theorem Sub.refl {t:Tm}:Sub t t:=λ_ _ h=>h
abbrev iN (n:Nat):Value:=.int .i64 (n:Int)
abbrev uN (n:Nat):Value:=.int .u64 (n:Int)
abbrev pA (b:Nat):Value:=.pointer (some ⟨b,0,none⟩)
theorem ex {α:Sort _}(e:α):∃x,x=e:=⟨_,rfl⟩
end
section
variable {H':cG}{K R:Value→cG→Prop}{a:Act}{after:Array Edge}{args:List Value}{b want:Bool}{c y:Code}{dst:Option Tmp}{f:FuncId}{fn:Func}{id:Nat}{l:List Oper}{o:Oper}{op:Op}{ops:Array Oper}{pos:String}{ty:TypeId}{v:Value}{w:World}
section
variable (G:cJ) (P:Program) (N:Nat)
abbrev Post:=Exit→Tm→cG→Prop
def up (Q:Post):Exit→Act→World→Prop:=λe a w=>∃t H,Fr N t a∧Sat G w H∧Q e t H
structure W (c:Code) (Q:Post) (t:Tm) (H:cG):Prop where
 go:∀a w,Fr N t a→Sat G w H→Code.wp P c (up G N Q) a w
structure O (ops:Array Oper) (l:List Oper) (Q:Post) (t:Tm) (H:cG):Prop where
 go:∀a w,Fr N t a→Sat G w H→wpList P ops (up G N Q) l a w
def H3 (y:Code) (Q:Post):Post:=λe t H=>match e with
 | .normal=>W G P N y Q t H
 |e=>Q e t H
def wS (id:Nat) (Q:Post):Post:=λe t H=>match e with
 | .exit id'=>bif Nat.beq id' id then Q .normal t H else Q (.exit id') t H
 |e=>Q e t H
end
section
variable {G:cJ}{P:Program}{N:Nat}{Q:Post}{t:Tm}{H:cG}
theorem Hr {Q b:Post}(h:∀e t H,Q e t H→b e t H){e:Exit}(c:up G N Q e a w):up G N b e a w:=
 let ⟨t,H,h1,h2,h3⟩:=c
 ⟨t,H,h1,h2,h _ _ _ h3⟩
theorem Ke (h:Q .normal t H):W G P N .skip Q t H:=⟨λ_ _ ha a=>wp_skip ⟨t,H,ha,a,h⟩⟩
theorem Kg (h:Q (.exit id) t H):W G P N (.exit id) Q t H:=⟨λ_ _ ha a=>wp_exit ⟨t,H,ha,a,h⟩⟩
theorem MO (h:Q .ret t H):W G P N .ret Q t H:=⟨λ_ _ ha a=>wp_ret ⟨t,H,ha,a,h⟩⟩
theorem Dz {x:Code}(h:W G P N x (H3 G P N y Q) t H):W G P N (.seq x y) Q t H:=
 ⟨λa w ha i=>wp_seq (wp_mono (h.go a w ha i) λe k f j=>by
  obtain⟨g,H',c,b,d⟩:=j;cases e <;> first|exact d.go k f c b|exact⟨g,H',c,b,d⟩)⟩
theorem Hl (h:W G P N c (wS id Q) t H):W G P N (.block id c) Q t H:=
 ⟨λa w ha i=>wp_block (wp_mono (h.go a w ha i) λe a' w' j=>by
  obtain⟨g,H',d,b,f⟩:=j;cases e with
  |exit id'=>
   simp only[wS]at f;simp only[Exit.inBlock];cases hb:Nat.beq id' id with
   |true=>
    rw[hb]at f;rw[if_pos (X2 hb)];exact⟨g,H',d,b,f⟩
   |false=>
    rw[hb]at f;rw[if_neg (λe=>by rw[e]at hb;exact absurd (Nat.beq_refl id) (by rw[hb];simp))];exact⟨g,H',d,b,f⟩
  |_=>exact⟨g,H',d,b,f⟩)⟩
theorem w_if {c:Operand}{x:Code}(hc:evo t c=some (.bool b)) (e:b=true→W G P N x Q t H) (hf:b=false→W G P N y Q t H):W G P N (.cond c x y) Q t H:=
 ⟨λa w ha d=>wp_cond (t:=b) (ha.agree c _ hc) (by
  cases b with
  |true=>exact(e rfl).go a w ha d
  |false=>exact(hf rfl).go a w ha d)⟩
theorem BS {c:Operand}{x:Code}(hc:evo t c=some (.bool true)) (a:W G P N x Q t H):W G P N (.cond c x y) Q t H:=
 w_if hc (λ_=>a) (λh=>aU)
theorem zg {c:Operand}{x:Code}(hc:evo t c=some (.bool false)) (a:W G P N y Q t H):W G P N (.cond c x y) Q t H:=
 w_if hc (λh=>aU) (λ_=>a)
theorem DA (h:O G P N l.toArray l Q t H):W G P N (.region id l.toArray false) Q t H:=
 ⟨λa w ha b=>wp_region_lit (h.go a w ha b)⟩
theorem Fg (h:Q .normal t H):O G P N ops [] Q t H:=⟨λ_ _ ha a=>wpList_nil ⟨t,H,ha,a,h⟩⟩
theorem w_sub {b:Tm}(hs:Sub b t) (h:W G P N c Q b H):W G P N c Q t H:=⟨λa w ha d=>h.go a w (ha.sub hs) d⟩
theorem DB {b:Post}(h:W G P N c b t H) (g:∀e t H,b e t H→Q e t H):W G P N c Q t H:=⟨λa w ha d=>wp_mono (h.go a w ha d) λ_ _ _ f=>Hr g f⟩
def cH (H H':cG):Prop:=∀L,Sep H L→∃L' M,Sep H' L'∧(L'++M).Perm L
theorem cH.refl {H:cG}:cH H H:=λL h=>⟨L, [],h,ak⟩
theorem cH.trans {H a:cG}(h:cH H H') (b:cH H' a):cH H a:=λL hL=>
 let ⟨L',M,h1,h2⟩:=h L hL
 let ⟨L'',M',h3,h4⟩:=b L' h1
 ⟨L'',M'++M,h3,by rw[←Yf];exact(h4.append_right M).trans h2⟩
theorem cH.drop {A:Hp}{H:cG}(h:cH H H'):cH (A::H) H':=λL hL=>by
 obtain⟨L1,L2,rfl,_,h2⟩:=hL;obtain⟨a,M,h3,h4⟩:=h L2 h2;exact⟨a,M++L1,h3,by rw[←Yf];exact(h4.append_right L1).trans List.perm_append_comm⟩
theorem cH.imp {A B:Hp}{H:cG}(a:∀L,A L→B L) (h:cH H H'):cH (A::H) (B::H'):=λL hL=>by
 obtain⟨L1,L2,rfl,h1,h2⟩:=hL;obtain⟨b,M,h3,h4⟩:=h L2 h2;exact⟨L1++b,M,⟨L1,b,rfl,a _ h1,h3⟩,by rw[Yf];exact h4.append_left L1⟩
theorem cH.keep {A:Hp}{H:cG}(h:cH H H'):cH (A::H) (A::H'):=cH.imp (λ_ h=>h) h
theorem cH.add {A:Hp}{H:cG}(hA:A []) (h:cH H H'):cH H (A::H'):=λL hL=>by
 obtain⟨a,M,h3,h4⟩:=h L hL;exact⟨a,M,⟨[],a,rfl,hA,h3⟩,h4⟩
theorem cH.sat {H:cG}(h:cH H H') (a:Sat G w H):Sat G w H':=by
 obtain⟨b,L,hL,hl⟩:=a;obtain⟨c,M,h1,h2⟩:=h L hL;refine⟨b,c,h1,?_,λx hx=>hl.at_ x (h2.mem_iff.1 (Yy M hx))⟩;have h3:=((h2.map (·.1)).nodup_iff).2 hl.nodup;rw[Va]at h3;exact(R5.1 h3).1
def qf {α:Type}(I:α→Prop) (fr:α→Tm) (hp:α→cG) (μ:α→Nat) (x:α) (Q:Post):Post:=λe t H=>match e with
 | .normal=>∃y,I y∧μ y<μ x∧Sub (fr y) t∧cH H (hp y)
 |e=>Q e t H
theorem w_loop (α:Type) (I:α→Prop) (fr:α→Tm) (hp:α→cG) (μ:α→Nat) (x0:α) (h0:I x0) (hs:Sub (fr x0) t) (hh:cH H (hp x0)) (i:∀x,I x→W G P N c (qf I fr hp μ x Q) (fr x) (hp x)):W G P N (.loop c) Q t H:=by
 refine⟨λa w ha A=>?_⟩;intro b k E;have z:∀n x,μ x=n→I x→∀a w,Fr N (fr x) a→Sat G w (hp x)→
  ∃e v u,up G N Q e v u∧Arrives P (lone (b.at a (.code c:: .inLoop c::k)) E w) b k E e v u:=by
  intro n
  induction n using Nat.strongRecOn with
  |_ n ih=>
   intro x J hI a w ha A;obtain⟨e,p,m,h,d⟩:=(i x hI).go a w ha A b (.inLoop c::k) E;obtain⟨q,H',g,f,h⟩:=h;cases e with
   |normal=>
    obtain⟨y,hy,C,r,s⟩:=h;obtain⟨K,L,F,B,j⟩:=ih (μ y) (J ▸ C) y rfl hy p m (g.sub r) (s.sat f);exact⟨K,L,F,B,.of_steps (Steps.trans d (.one step_inLoop)) j⟩
   |exit id=>exact⟨_,p,m,⟨q,H',g,f,h⟩,.pass (x:=.inLoop c) rfl (λ_ _=>.inl ak) d⟩
   |goto l=>exact⟨_,p,m,⟨q,H',g,f,h⟩,.pass (x:=.inLoop c) rfl (λ_ _=>.inl ak) d⟩
   |ret=>exact⟨_,p,m,⟨q,H',g,f,h⟩,.pass (x:=.inLoop c) rfl (λ_ _=>.inl ak) d⟩
   |panic ch=>exact⟨_,p,m,⟨q,H',g,f,h⟩,.pass (x:=.inLoop c) rfl (λ_ _=>.inl ak) d⟩
   |outgrown=>exact⟨_,p,m,⟨q,H',g,f,h⟩,.pass (x:=.inLoop c) rfl (λ_ _=>.inl ak) d⟩
 obtain⟨e,v,u,h,d⟩:=z _ x0 rfl h0 a w (ha.sub hs) (hh.sat A);exact⟨e,v,u,h,.of_steps (.one step_loop) d⟩
theorem Qt (h:Q .normal t H):wS id Q (.exit id) t H:=by
 show(bif Nat.beq id id then Q .normal t H else Q (.exit id) t H);rw[show Nat.beq id id=true from Nat.beq_refl id];exact h
section
variable {α:Type}{I:α→Prop}{fr:α→Tm}{hp:α→cG}{μ:α→Nat}{x:α}
end
structure SC (G:cJ) (P:Program) (f:FuncId) (args:List Value) (H:cG) (K:Value→cG→Prop):Prop where
 enter:∀(a_s:Array Value) w,(callFunc f a_s).run P w=.ok (.enter f a_s) w
 call:∀w,Sat G w H→Calls P f args.toArray w λe w'=>match e with
  | .returned v=>∃H',Sat G w' H'∧K v H'
  |_=>False
theorem SC.mono {a:Value→cG→Prop}(h:SC G P f args H K) (hk:∀v H',K v H'→a v H'):SC G P f args H a:=
 ⟨h.enter,λw b=>(h.call w b).mono λe w' he=>by
  cases e with
  |returned v=>obtain⟨H',h1,h2⟩:=he;exact⟨H',h1,hk _ _ h2⟩
  |_=>exact he.elim⟩
theorem SC.heap (h:SC G P f args H' K) (hs:∀w,Sat G w H→Sat G w H'):SC G P f args H K:=
 ⟨h.enter,λw a=>h.call w (hs w a)⟩
def Ev (G:cJ) (P:Program) (o:Oper) (t:Tm) (H:cG) (v:Value):Prop:=
 ∀ρ,zb t ρ→∀w,Sat G w H→(execOp ρ o).run P w=.ok (.value v) w
def kY (G:cJ) (P:Program) (R:Value→cG→Prop):Result Next→Prop
 | .ok (.value v) w'=>∃H',Sat G w' H'∧R v H'
 | .ok .skip w'=>∃H',Sat G w' H'∧R undef H'
 | .ok (.enter f args) w'=>Calls P f args w' λe w''=>match e with
  | .returned v=>∃H',Sat G w'' H'∧R v H'
  |_=>False
 |_=>False
def St (G:cJ) (P:Program) (o:Oper) (t:Tm) (H:cG) (R:Value→cG→Prop):Prop:=
 ∀ρ,zb t ρ→∀w,Sat G w H→kY G P R ((execOp ρ o).run P w)
theorem Ev.st (h:Ev G P o t H v):St G P o t H (λu H'=>u=v∧H'=H):=
 fun ρ hρ w hw=>by rw[h ρ hρ w hw];exact⟨H,hw,rfl,rfl⟩
theorem kY.wp {next:Act→World→Prop}(h:kY G P R ((execOp a.eval o).run P w)) (b:∀v w' H',Sat G w' H'→R v H'→next (a.put o.dst v) w'):o.wp P a w next (up G N Q):=by
 unfold Oper.wp;generalize (execOp a.eval o).run P w=r at*;cases r with
 |ok n w'=>
  cases n <;> simp only[kY]at h <;> simp only[Oper.upon]
  case value v=>obtain⟨H',h1,h2⟩:=h;exact b _ _ _ h1 h2
  case skip=>obtain⟨H',h1,h2⟩:=h;exact b _ _ _ h1 h2
  case enter f args=>
   refine h.mono λe w'' he=>?_;cases e with
   |returned v=>obtain⟨H',h1,h2⟩:=he;exact b _ _ _ h1 h2
   |_=>exact he.elim
 |halt x w'=>simp only[kY]at h
theorem xS (h:St G P ⟨dst,op,ty,pos,after,none⟩ t H R) (hd:fC N dst=true) (hk:∀v H',R v H'→O G P N ops l Q (put t dst v) H'):
 O G P N ops (⟨dst,op,ty,pos,after,none⟩::l) Q t H:=by
 refine⟨λa w ha c=>?_⟩;unfold wpList;rw[if_pos bn];exact .inl ((h a.eval ha.agree w c).wp λv w' H' b hr=>(hk v H' hr).go _ _ (ha.put hd v) b)
theorem Fh (h:Ev G P ⟨dst,op,ty,pos,after,none⟩ t H v) (hd:fC N dst=true) (hk:O G P N ops l Q (put t dst v) H):
 O G P N ops (⟨dst,op,ty,pos,after,none⟩::l) Q t H:=
 xS h.st hd (λ_ _ ⟨e1,e2⟩=>by rw[e1,e2];exact hk)
theorem lA {j d:Nat}(ha:Fr N t a) (c:o.guard=some (j,want)) (hj:(ops[j]?).bind (·.dst)=some d) (e:look t d=some (.bool b)):
 Region.wanted o (yielded ops a.tmps)=(b==want):=by
 have h1:a.tmps[d]? =some (.bool b):=ha.look _ _ e;have h2:yielded ops a.tmps j=some b:=by
  unfold yielded;rw[hj];simp[h1]
 unfold Region.wanted;rw[c];simp only[h2];cases b <;> cases want <;> rfl
theorem td {j d:Nat}(hj:(ops[j]?).bind (·.dst)=some d) (i:look t d=some (.bool b)) (h:b=want→St G P ⟨dst,op,ty,pos,after,some (j,want)⟩ t H R) (hd:fC N dst=true) (hk:b=want→∀v H',R v H'→O G P N ops l Q (put t dst v) H') (g:b≠want→O G P N ops l Q (put t dst undef) H):
 O G P N ops (⟨dst,op,ty,pos,after,some (j,want)⟩::l) Q t H:=by
 refine⟨λa w ha f=>?_⟩;unfold wpList;rw[lA (o:=⟨dst,op,ty,pos,after,some (j,want)⟩) ha rfl hj i]
 by_cases e:b=want
 ·rw[if_pos (by simp[e])];exact .inl ((h e a.eval ha.agree w f).wp λv w' H' c hr=>(hk e v H' hr).go _ _ (ha.put hd v) c)
 ·rw[if_neg (by simp[e])];exact(g e).go _ _ (ha.put hd undef) f
theorem jY {t:Tm}{ρ:Operand→Value}(hρ:zb t ρ):∀{xs:List Operand}{vs:List Value},oP t xs=some vs→xs.map ρ=vs
 | [],_,h=>by cases h;rfl
 |x::xs,vs,h=>by
  simp only[oP]at h
  split at h
  ·rename_i v us h1 h2;cases h;rw[Xn,hρ x v h1,jY hρ h2]
  ·cases h
theorem dy {xs:List Operand}{a:Array TypeId}{g:Option (Nat×Bool)}{vs:List Value}(hx:oP t xs=some vs) (hc:SC G P f vs H K):St G P ⟨dst,.call ⟨.value (.func f),xs.toArray,a⟩,ty,pos,after,g⟩ t H K:=by
 intro ρ hρ w b;have h1:ρ (.func f)=.func (.func f) #[] #[]:=hρ _ _ rfl;have h2:xs.toArray.map ρ=vs.toArray:=bD;have:(execOp ρ ⟨dst,.call ⟨.value (.func f),xs.toArray,a⟩,ty,pos,after,g⟩).run P w=.ok (.enter f vs.toArray) w:=by
  simp only[execOp,resolve,h1,h2,Deferred.ofValue,Sem.run_bind,Sem.run_pure,Result.andThen_ok];simp only[invoke,Array.append_empty,Array.empty_append];exact hc.enter _ _
 rw[this];exact hc.call w b
def nE:Nat→List Value→Tm
 |_, []=>[]
 |k,v::vs=>(k,v)::nE (k+1) vs
theorem oL:∀(args:List Value) (k n:Nat) (v:Value),look (nE k args) n=some v→k≤n∧args[n-k]? =some v:=by
 intro args
 induction args with
 |nil=>intro k n v h;cases h
 |cons a a_s ih=>
  intro k n v h;simp only[nE,look]at h;cases hb:Nat.beq k n with
  |true=>
   obtain rfl:=X2 hb;rw[hb]at h;simp at h;exact⟨Xj _,by simp[h]⟩
  |false=>
   rw[hb]at h;obtain⟨h1,h2⟩:=ih (k+1) n v h;refine⟨a8,?_⟩;rw[show n-k=(n-(k+1))+1 from a8,Xc];exact h2
def As (P:Program) (fn:Func) (K:Value→cG→Prop):Post:=λe t H=>(e=.normal∨e=.ret)∧∃v,K v H∧∀G N a w,Fr N t a→Sat G w H→(results fn a.tmps).run P w=.ok v w
theorem EI (hf:P.funcs[f]? =some fn) (i:fn.body=some c) (m:(fn.name== "runtime.NumGoroutine")=false) (g:Tm) (l:∀n v,look g n=some v→args[n]? =some v) (hle:args.length≤fn.ntmps) (h:W G P fn.ntmps c (As P fn K) g H):SC G P f args H K:=by
 refine⟨λas w=>?_,λw j=>?_⟩
 ·have hn':¬fn.name= "runtime.NumGoroutine" :=by simpa using m
  simp[callFunc,hf,i,hn']
 ·refine calls_of_wp hf i (wp_mono (h.go _ w ?_ j) ?_)
  ·refine⟨aH,rfl,λn v hv=>?_⟩;have:=l n v hv;have d:n<args.length:=(Yk.1 this).1;rw[Uw (by simpa using d)]
   simpa using this
  ·intro e a' w' k;obtain⟨t',H',b,a,he,v,hv,hr⟩:=k;rcases he with rfl|rfl
   ·exact⟨b.defers,v,hr _ _ _ _ b a,H',a,hv⟩
   ·exact⟨b.defers,v,hr _ _ _ _ b a,H',a,hv⟩
theorem OO {N:Nat}(hf:P.funcs[f]? =some fn) (d:fn.body=some c) (hN:fn.ntmps=N) (b:(fn.name== "runtime.NumGoroutine")=false) (a:args.length≤N) (h:W G P N c (As P fn K) (nE 0 args) H):SC G P f args H K:=by
 subst hN;exact EI hf d b (nE 0 args) (λn v hv=>(oL args 0 n v hv).2) a h
end
end
end Go.Sx
