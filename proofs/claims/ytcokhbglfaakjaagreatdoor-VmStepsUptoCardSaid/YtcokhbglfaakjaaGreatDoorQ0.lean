import Derived.KernelRfl
import Derived.Calls
import Derived.Tactics
import Derived.Orders
import Derived.Still
import Derived.Laws.BitsLemmas
import Derived.Laws.Bits64
import Derived.Laws.Cells
set_option linter.all false
set_option maxHeartbeats 0
namespace Go.Sx
open Go
theorem Za {p : Prop} [Decidable p] : (decide p = true) = p := decide_eq_true_eq
theorem Zb {p : Prop} [Decidable p] : decide p = false ↔ ¬p := decide_eq_false_iff_not
theorem Zc (b : Bool) : ((!b) = true) = (b = false) := Bool.not_eq_true' b
theorem Zd (b : Bool) : ((!b) = false) = (b = true) := Bool.not_eq_false' b
theorem Ze (a b : Bool) : ((a && b) = true) = (a = true ∧ b = true) := Bool.and_eq_true a b
theorem Zf (a b : Bool) : ((a || b) = true) = (a = true ∨ b = true) := Bool.or_eq_true a b
theorem Zg {α : Type} (a b : α) : (a ≠ b) = ¬(a = b) := ne_eq a b
theorem Zh {p : Prop} [Decidable p] : ¬¬p ↔ p := Decidable.not_not
theorem Ya {α : Type} {a b : List α} : (a ++ b).length = a.length + b.length := List.length_append
theorem Yb {α : Type} {a : α} {l : List α} : (a :: l).length = l.length + 1 := rfl
theorem Yc {α : Type} : ([] : List α).length = 0 := rfl
theorem Yd {α : Type} {a : α} {l m : List α} : (a :: l) ++ m = a :: (l ++ m) := rfl
theorem Ye {α : Type} (l : List α) : [] ++ l = l := rfl
theorem Yf {α : Type} (a b c : List α) : a ++ b ++ c = a ++ (b ++ c) := List.append_assoc a b c
theorem Yg {α : Type} {n : Nat} {l : List α} : (l.take n).length = min n l.length := List.length_take
theorem Yh {α β : Type} {l : List α} (f : α → β) : (l.map f).length = l.length := List.length_map f
theorem Yi {α : Type} {l : List α} {i : Nat} (h : i < l.length) : l[i]? = some l[i] := List.getElem?_eq_getElem h
theorem Yj {α : Type} {l : List α} {i : Nat} {a : α} (h : l[i]? = some a) : a ∈ l := List.mem_of_getElem? h
theorem Yk {α : Type} {l : List α} {i : Nat} {a : α} : l[i]? = some a ↔ ∃ h : i < l.length, l[i] = a := List.getElem?_eq_some_iff
theorem Yl (n : Nat) : 0 ≤ n := Nat.zero_le n
theorem Ym {α : Type} (l : List α) : l ++ [] = l := List.append_nil l
theorem Yo {α : Type} {i : Nat} {l : List α} : (l.drop i).length = l.length - i := List.length_drop
theorem Yp {α : Type} {n : Nat} {l : List α} {a : α} (h : a ∈ l.drop n) : a ∈ l := List.mem_of_mem_drop h
theorem Yq {α : Type} {n : Nat} {l : List α} {a : α} (h : a ∈ l.take n) : a ∈ l := List.mem_of_mem_take h
theorem Yr {p : Prop} [Decidable p] (h : ¬p) : decide p = false := decide_eq_false h
theorem Ys {p : Prop} [Decidable p] (h : p) : decide p = true := decide_eq_true h
theorem Yt {p : Prop} [Decidable p] (h : decide p = true) : p := of_decide_eq_true h
theorem Yu {α : Type} {a b : List α} {i : Nat} (h : a.length ≤ i) : (a ++ b)[i]? = b[i - a.length]? := List.getElem?_append_right h
theorem Yv {α : Type} {a b : List α} {i : Nat} (h : i < a.length) : (a ++ b)[i]? = a[i]? := List.getElem?_append_left h
theorem Yx {α : Type} {a : α} (l : List α) {m : List α} (h : a ∈ m) : a ∈ l ++ m := List.mem_append_right l h
theorem Yy {α : Type} {a : α} {l : List α} (m : List α) (h : a ∈ l) : a ∈ l ++ m := List.mem_append_left m h
theorem Yz {α : Type} {a : α} {l : List α} : a ∈ a :: l := List.mem_cons_self
theorem Xa {α : Type} (y : α) {a : α} {l : List α} (h : a ∈ l) : a ∈ y :: l := List.mem_cons_of_mem y h
theorem Xb {α : Type} {a : α} {l : List α} : (a :: l)[0]? = some a := rfl
theorem Xc {α : Type} {a : α} {l : List α} {i : Nat} : (a :: l)[i + 1]? = l[i]? := rfl
theorem Xd {α β : Type} {f : α → β} {l : List α} {i : Nat} : (l.map f)[i]? = l[i]?.map f := List.getElem?_map
theorem Xe {α : Type} {n : Nat} {a : α} : (List.replicate n a).length = n := List.length_replicate
theorem Xh {α : Type} {l : List α} {i j : Nat} : (l.drop i)[j]? = l[i + j]? := List.getElem?_drop
theorem Xi {a b c : Nat} (h : a ≤ b) (k : b ≤ c) : a ≤ c := Nat.le_trans h k
abbrev Xj:=@List.getD_eq_getElem?_getD
abbrev Xk:=@Option.some.inj
abbrev Xl:=@Nat.le_refl
abbrev Xm:=@List.mem_append
abbrev Xn:=@List.take_length
abbrev Xo:=@List.mem_cons
abbrev Xp:=@List.map_append
abbrev Xq:=@decide_eq_true_eq
abbrev Xr:=@List.take_of_length_le
abbrev Xs:=@List.map_cons
abbrev Xt:=@List.mem_map
abbrev Xu:=@Bool.and_eq_true
abbrev Xv:=@Bool.true_and
abbrev Xw:=@Nat.mod_eq_of_lt
abbrev Xx:=@Bool.false_eq_true
abbrev Xy:=@decide_eq_false_iff_not
abbrev Xz:=@List.getElem?_eq_none
abbrev Va:=@List.drop_zero
abbrev Vb:=@List.mem_singleton
abbrev Vc:=@Array.getElem?_eq_some_iff
abbrev Vd:=@List.take_append_drop
abbrev Ve:=@Int.toNat_natCast
abbrev Vf:=@List.getElem?_set
abbrev Vg:=@List.drop_left
abbrev Vh:=@List.mem_iff_getElem?
abbrev Vi:=@List.drop_length
abbrev Vj:=@List.mem_map_of_mem
abbrev Vk:=@Bool.false_and
abbrev Vl:=@List.pairwise_cons
abbrev Vm:=@decide_eq_decide
abbrev Vn:=@List.drop_of_length_le
abbrev Vo:=@List.getElem?_of_mem
abbrev Vp:=@List.getElem?_take_of_lt
abbrev Vq:=@List.take_succ_cons
abbrev Vs:=@Option.map_some
abbrev Vt:=@List.drop_drop
abbrev Vu:=@Nat.mul_le_mul_right
abbrev Vv:=@List.sum_cons
abbrev Vw:=@Nat.zero_add
abbrev Vx:=@List.flatMap_cons
abbrev Vy:=@Nat.add_mul
abbrev Vz:=@List.ext_getElem?
abbrev Ua:=@Bool.and_eq_false_iff
abbrev Ub:=@List.length_set
abbrev Uc:=@List.eq_nil_of_length_eq_zero
abbrev Ud:=@List.map_nil
abbrev Ue:=@List.getElem?_set_self
abbrev Uf:=@Bool.not_eq_true'
abbrev Ug:=@Nat.min_eq_left
abbrev Uh:=@Bool.or_eq_true
abbrev Ui:=@Nat.sub_self
abbrev Uj:=@List.pairwise_append
abbrev Uk:=@List.pairwise_singleton
abbrev Ul:=@List.length_singleton
abbrev Um:=@List.take_add_one
abbrev Un:=@Nat.eq_zero_or_pos
abbrev Uo:=@List.map_map
abbrev Up:=@Nat.not_lt_zero
abbrev Uq:=@Nat.lt_or_eq_of_le
abbrev Ur:=@List.getElem?_range
abbrev Us:=@Nat.lt_or_ge
abbrev Ut:=@Bool.or_eq_false_iff
abbrev Uu:=@Array.getElem?_append_left
abbrev Uv:=@Nat.mul_le_mul
abbrev Uw:=@List.getElem?_toArray
abbrev Ux:=@List.set_append_right
abbrev Uy:=@List.map_toArray
abbrev Uz:=@Nat.pow_add
abbrev X0:=@Nat.pow_le_pow_right
abbrev X1:=@List.length_dropLast
abbrev X2:=@Bool.not_eq_false'
abbrev X3:=@List.getElem?_take
abbrev X4:=@List.eq_nil_or_concat
abbrev X5:=@List.all_eq_true
abbrev X6:=@Nat.add_zero
abbrev X7:=@Nat.add_sub_cancel
abbrev X8:=@Array.getElem?_setIfInBounds
abbrev X9:=@List.range_succ
abbrev V0:=@Nat.add_assoc
abbrev V1:=@Nat.eq_of_beq_eq_true
abbrev V2:=@Nat.mod_lt
abbrev V3:=@Nat.mul_assoc
abbrev V4:=@Option.getD_some
abbrev V5:=@Nat.mul_comm
abbrev V6:=@List.replicate_succ
abbrev V7:=@Nat.mul_le_mul_left
abbrev V8:=@Decidable.not_not
abbrev V9:=@Nat.le_of_lt_succ
abbrev U0:=@List.cons_lt_cons_iff
abbrev U1:=@List.nodup_cons
abbrev U2:=@Bool.eq_iff_iff
abbrev U3:=@Nat.two_pow_pos
abbrev U4:=@List.mem_flatMap
abbrev U5:=@Nat.mul_one
abbrev U6:=@List.set_eq_take_append_cons_drop
abbrev U7:=@Nat.or_lt_two_pow
abbrev U8:=@List.pairwise_map
abbrev U9:=@List.drop_succ_cons
abbrev T1:=@List.map_congr_left
abbrev T4:=@List.pairwise_iff_getElem
abbrev T5:=@Array.getElem?_modify
abbrev T6:=@Bool.not_true
abbrev T7:=@Bool.not_false
abbrev T8:=@Int.le_refl
abbrev T9:=@List.take_left
abbrev S0:=@List.reverse_reverse
abbrev S1:=@List.getElem?_inj
abbrev S2:=@List.getElem?_replicate
abbrev S3:=@List.sum_append
abbrev S4:=@List.length_zip
abbrev S5:=@List.flatMap_append
abbrev S6:=@Nat.div_div_eq_div_mul
abbrev S7:=@List.drop_eq_nil_of_le
abbrev S8:=@List.any_eq_true
abbrev S9:=@List.not_mem_nil
abbrev R4:=@Option.toList_some
abbrev R5:=@Array.getElem?_toList
abbrev R6:=@List.mem_or_eq_of_mem_set
abbrev R7:=@Nat.mul_add
abbrev R8:=@Nat.sub_zero
abbrev R9:=@List.map_set
abbrev Q0:=@List.mem_of_getLast?
abbrev Q3:=@List.headD_eq_head?_getD
abbrev Q4:=@Nat.add_sub_cancel_left
abbrev Q5:=@Array.ext_getElem?
abbrev Q6:=@Nat.lt_of_lt_of_le
abbrev Q7:=@Nat.sub_add_cancel
abbrev Q8:=@Bool.false_or
abbrev Q9:=@Nat.xor_assoc
abbrev P0:=@List.map_id
theorem BL {a b : Nat} (h : Nat.ble a b = true := by rfl) : a ≤ b := Nat.le_of_ble_eq_true h
theorem a8 {p : Prop} (h : p := by first | omega | (dsimp only; omega)) : p := h
theorem aa {p : Prop} (h : p := by kernel_rfl) : p := h
theorem ab {p : Prop} (h : p := by first | omega | (simp only [Ya, Yb, Yc]; omega) | (simp; omega)) : p := h
theorem ad {p : Prop} (h : p := by first | exact dW 18446744073709551616 rfl rfl rfl _ rfl (by omega) | exact ez 18446744073709551616 rfl rfl rfl _ rfl) : p := h
theorem ae {p : Prop} (h : p := by decide) : p := h
theorem af {p : Prop} (h : p := by subst hi; first | infer_instance | exact ⟨inferInstance, inferInstance, inferInstance⟩ | exact ⟨inferInstance, inferInstance⟩) : p := h
theorem ag {p : Prop} (h : p := by subst hi; first | infer_instance | exact gV.less (hsb) hpo3) : p := h
theorem ah {p : Prop} (h : p := by have hN := hH.1 rfl; exact ldv) : p := h
theorem ai {p : Prop} (h : p := by show _ ≤ (9223372036854775807 : Int); omega) : p := h
theorem aj {p : Prop} (h : p := by simp only [Ya]; omega) : p := h
theorem ak {p : Prop} (h : p := by first | decide | omega) : p := h
theorem ao {p : Prop} (h : p := by have h9 := h1; omega) : p := h
theorem aq {p : Prop} (h : p := by simp) : p := h
theorem ar {p : Prop} (h : p := by have hN := hH.2.1 rfl; exact ldv) : p := h
theorem au {p : Prop} (h : p := by rw [hI, show nD i c = false from Yr (by omega)]; rfl) : p := h
theorem aw {p : Prop} (h : p := by have h9 := h2; omega) : p := h
theorem ax {p : Prop} (h : p := by decide +kernel) : p := h
theorem ay {p : Prop} (h : p := by first | exact jo 18446744073709551616 rfl rfl rfl rfl _ _ rfl rfl (by omega) | exact lk 18446744073709551616 rfl rfl rfl rfl _ _ rfl rfl) : p := h
theorem az {p : Prop} (h : p := by rw [Yg]; omega) : p := h
theorem aA {p : Prop} (h : p := by first | exact dW 4294967296 rfl rfl rfl _ rfl (by omega) | exact ez 4294967296 rfl rfl rfl _ rfl) : p := h
theorem aB {p : Prop} (h : p := by subst hi; exact iS (by kernel_rfl)) : p := h
theorem aC {p : Prop} (h : p := by subst hi; first | infer_instance | exact ⟨inferInstance, inferInstance⟩) : p := h
theorem aD {p : Prop} (h : p := by have h9 := h3; omega) : p := h
theorem aE {p : Prop} (h : p := by (subst_vars; rfl)) : p := h
theorem aG {p : Prop} (h : p := by have hN := hH.2.2.1 rfl; exact ixa) : p := h
theorem aH {p : Prop} (h : p := by unfold iG; rw [if_neg (by omega), if_pos (by omega)]; simp_all [jt]) : p := h
theorem aI {p : Prop} (h : p := by simp only [Op.equalIn, Sem.run_bind, ef (T := T), Result.andThen_ok, Sem.run_pure]) : p := h
theorem aJ {p : Prop} (h : p := by have h9 := h4; omega) : p := h
theorem aK {p : Prop} (h : p := by simp at h) : p := h
theorem aL {p : Prop} (h : p := by have hN := hH.2.2.1 rfl; exact ldv) : p := h
theorem aM {p : Prop} (h : p := by have hN := hH.2 rfl; exact ldv) : p := h
theorem aO {p : Prop} (h : p := by have h9 := h2; simpa using h9) : p := h
theorem aP {p : Prop} (h : p := by first | omega | (simp; omega)) : p := h
theorem aQ {p : Prop} (h : p := by simp; omega) : p := h
theorem aR {p : Prop} (h : p := by subst hi; first | infer_instance | exact gV.less (hsb) hpo) : p := h
theorem aT {p : Prop} (h : p := by first | rfl | omega) : p := h
theorem aU {p : Prop} (h : p := by assumption) : p := h
theorem aV {p : Prop} (h : p := by first | decide | (show _ ≤ 64; omega)) : p := h
theorem aW {p : Prop} (h : p := by have h9 := h5; omega) : p := h
theorem aX {p : Prop} (h : p := by have hN := hH.1 rfl; exact lds) : p := h
theorem aY {p : Prop} (h : p := by simp only [jw] at he; split at he; assumption; cases he) : p := h
theorem ba {p : Prop} (h : p := by rw [Yo]; omega) : p := h
theorem bf {p : Prop} (h : p := by simp only [jw] at he; split at he; omega; cases he) : p := h
theorem bg {p : Prop} (h : p := by have h9 := h1; simpa using h9) : p := h
theorem bj {p : Prop} (h : p := by first | exact dW 256 rfl rfl rfl _ rfl (by omega) | exact ez 256 rfl rfl rfl _ rfl) : p := h
theorem bm {p : Prop} (h : p := by subst hi; infer_instance) : p := h
theorem bn {p : Prop} (h : p := by simp [execOp, hρ _ _ hx, hρ _ _ hy, eqGuard, binOp, Op.intCmp]) : p := h
theorem bt {p : Prop} (h : p := by rw [Vy]; omega) : p := h
theorem bu {p : Prop} (h : p := by have hN := hH.2.2.2.1 rfl; exact ixa) : p := h
theorem bx {p : Prop} (h : p := by cases h) : p := h
theorem bz {p : Prop} (h : p := by rw [Ya]; omega) : p := h
theorem bA {p : Prop} (h : p := by simpa using h) : p := h
theorem bB {p : Prop} (h : p := by have := nq (fun p hp => (hsm.2 p hp).1) x hx; omega) : p := h
theorem bC {p : Prop} (h : p := by rw [Va]) : p := h
theorem bD {p : Prop} (h : p := by have := Yt hoo; simp only at this; omega) : p := h
theorem bE {p : Prop} (h : p := by have h9 := h11; omega) : p := h
theorem bF {p : Prop} (h : p := by rw [hI, lR, hor, Xw (by omega)]; rfl) : p := h
theorem bG {p : Prop} (h : p := by rw [X1]; omega) : p := h
theorem bH {p : Prop} (h : p := by rfl) : p := h
theorem bI {p : Prop} (h : p := by simp at h; subst h; rfl) : p := h
theorem bJ {p : Prop} (h : p := by simp only; omega) : p := h
theorem bK {p : Prop} (h : p := by simp [execOp, hρ _ _ hx, hρ _ _ hy, eqGuard, binOp, Op.intArith, kH h]) : p := h
theorem bL {p : Prop} (h : p := by unfold ju; rw [Yr (by omega)]; rfl) : p := h
theorem bM {p : Prop} (h : p := by have hN := hH.1 rfl; exact fla) : p := h
theorem bN {p : Prop} (h : p := by rw [e.len]; omega) : p := h
theorem bO {p : Prop} (h : p := by dsimp only; omega) : p := h
theorem bP {p : Prop} (h : p := by unfold iK; rw [Yr (by omega)]; rfl) : p := h
theorem bQ {p : Prop} (h : p := by simpa using hl) : p := h
theorem bR {p : Prop} (h : p := by rw [← hzs]; exact yr (zs := zs) inferInstance) : p := h
theorem bS {p : Prop} (h : p := by simp only [Yf]; exact (h6.append_left L3).append_left L1) : p := h
theorem bT {p : Prop} (h : p := by rw [Yo, Yg]; omega) : p := h
theorem bU {p : Prop} (h : p := by obtain ⟨d, hd, rfl⟩ := Xt.1 hx; have := h.ids d hd; omega) : p := h
theorem bV {p : Prop} (h : p := by rw [Yh]; omega) : p := h
theorem bW {p : Prop} (h : p := by rw [hT, hth]; rfl) : p := h
theorem bX {p : Prop} (h : p := by rw [kt, Yh]; omega) : p := h
theorem bY {p : Prop} (h : p := by have hN := hH rfl; exact evq ldv (congrArg (Value.int .i64) hpl)) : p := h
theorem bZ {p : Prop} (h : p := by have hN := hH.2.1 rfl; exact ixa) : p := h
theorem cf {p : Prop} (h : p := by rw [e.all_length, Yg, Ug (by omega)]) : p := h
theorem cg {p : Prop} (h : p := by have h9 := h10; omega) : p := h
theorem cj {p : Prop} (h : p := by rw [Yh]; exact hzl) : p := h
theorem ck {p : Prop} (h : p := by have h9 := h10; simpa using h9) : p := h
theorem cm {p : Prop} (h : p := by rw [gF, he]; simp only [Vt]; rw [hI]; rfl) : p := h
theorem cq {p : Prop} (h : p := by cases b with | true => exact h1 rfl | false => exact h2 rfl) : p := h
theorem cr {p : Prop} (h : p := by have := ud (fun p hp => (hsm.2 p hp).2.1) x hx; omega) : p := h
theorem cv {p : Prop} (h : p := by rw [hpc, ← hzp]; exact dH.trans (hsb) (dH.keep (oZ (x := ⟨lp, im, sk, rd2, zs2, blk2⟩) ⟨hpo2, hn, hbk2⟩))) : p := h
theorem cw {p : Prop} (h : p := by rw [h0] at hr; cases hr) : p := h
theorem cx {p : Prop} (h : p := by obtain ⟨L1, L2, rfl, _, h2⟩ := hL; obtain ⟨E, fz, hm⟩ := h.out L2 h2; exact ⟨E, fz, Yx _ hm⟩) : p := h
theorem cy {p : Prop} (h : p := by have h8 := congrArg List.length hzs; rw [Yh, Yg] at h8; rw [Yh]; omega) : p := h
theorem cz {p : Prop} (h : p := by rw [Uy, nv hρ hx]) : p := h
theorem cA {p : Prop} (h : p := by first | decide | (show _ ≤ 32; omega)) : p := h
theorem cB {p : Prop} (h : p := by unfold iG; rw [if_neg (by omega), if_neg (by omega)]) : p := h
theorem cC {p : Prop} (h : p := by have := congrArg List.length hk.keys; simpa using this) : p := h
theorem cD {p : Prop} (h : p := by simpa using h2) : p := h
theorem cE {p : Prop} (h : p := by rw [hbad]; rfl) : p := h
theorem cF {p : Prop} (h : p := by rw [hx4]; simp only [ne_eq, Option.some.injEq]; omega) : p := h
theorem cG {p : Prop} (h : p := by rw [Ya, Ul]; omega) : p := h
theorem cH {p : Prop} (h : p := by rcases hg4 j k hk with h9 | h9; omega; rcases hg2 j k h9 with h9 | h9; omega; have := hkb j k h9; omega) : p := h
theorem cI {p : Prop} (h : p := by rw [iO]; omega) : p := h
theorem cJ {p : Prop} (h : p := by rw [pG (by omega) (by omega) hkj hend]; rfl) : p := h
theorem cK {p : Prop} (h : p := by rw [hm]; exact congrArg (Value.int .i64) (by omega)) : p := h
theorem cL {p : Prop} (h : p := by rw [jM, ← hub, vK, hA, Yr (by omega), T6, Bool.or_false, cond_false]) : p := h
theorem cM {p : Prop} (h : p := by simp [Region.wanted]) : p := h
theorem cN {p : Prop} (h : p := by rw [had]; exact dH.trans (hsb) (oZ (c := c) (x := ⟨lp, im, sk, rd, zs, blk⟩) ⟨hc, hn, hbk⟩)) : p := h
theorem cO {p : Prop} (h : p := by first | exact rfl | exact jb (by simp_all [lsC])) : p := h
theorem cP {p : Prop} (h : p := by rw [hl]; omega) : p := h
theorem cQ {p : Prop} (h : p := by rw [hdef]; rfl) : p := h
theorem cR {p : Prop} (h : p := by unfold eC; omega) : p := h
theorem cS {p : Prop} (h : p := by unfold gO; omega) : p := h
theorem cU {p : Prop} (h : p := by rw [hdef, hdl]; rfl) : p := h
theorem cV {p : Prop} (h : p := by rw [IntKind.wrap_i64, IntKind.wrap_i64]; omega) : p := h
theorem cW {p : Prop} (h : p := by rw [hno]; rfl) : p := h
theorem cX {p : Prop} (h : p := by have := e.small; omega) : p := h
theorem cY {p : Prop} (h : p := by have h9 := h6; simpa using h9) : p := h
theorem cZ {p : Prop} (h : p := by have h9 := h4; simpa using h9) : p := h
theorem da {p : Prop} (h : p := by have h9 := h3; simpa using h9) : p := h
theorem db {p : Prop} (h : p := by unfold fQ; rw [Ys hg1, Ys hg2, kE (by omega)]; simp) : p := h
theorem df {p : Prop} (h : p := by rw [lX]; show (match p.curs[A]? with | some x => x.1 | none => 0) = _; rw [hfk]) : p := h
theorem dg {p : Prop} (h : p := by first | exact rfl | exact jb (by simp_all)) : p := h
theorem dh {p : Prop} (h : p := by rw [oy (o := ⟨dst, op, ty, pos, after, some (k, want)⟩) ha rfl hk hv]; simp) : p := h
theorem di {p : Prop} (h : p := by rw [oy (o := ⟨dst, op, ty, pos, after, some (j, want)⟩) ha rfl hj hv]; simp) : p := h
theorem dj {p : Prop} (h : p := by obtain ⟨h1, h2⟩ := h; obtain ⟨n, b, h3, h4⟩ := L9 h1; exact ⟨n, b, h3, h4, h2⟩) : p := h
theorem dk {p : Prop} (h : p := by rw [hI, hk]; simp) : p := h
theorem dm {p : Prop} (h : p := by have h9 := h12; omega) : p := h
theorem dp {p : Prop} (h : p := by show _ ↔ (decide (1 ≤ A) && decide (1 ≤ B) && decide (B ≤ A)) = true; simp; omega) : p := h
theorem dt {p : Prop} (h : p := by simpa using h1) : p := h
theorem du {p : Prop} (h : p := by rw [eL, Yh]) : p := h
theorem dx {p : Prop} (h : p := by rw [S4]; omega) : p := h
theorem dy {p : Prop} (h : p := by have h := h6; simpa using h) : p := h
theorem dz {p : Prop} (h : p := by have := (hk2 d hd).1; omega) : p := h
theorem dA {p : Prop} (h : p := by rw [AL (by omega) hzz, Ao h2l]) : p := h
theorem dB {p : Prop} (h : p := by rw [Yg, fZ]; omega) : p := h
section
variable {N b:Nat}{a:Act}{o:Obj}{w w':World}
structure dJ where
 os:Os
 tape:Nat→Question→Nat
 output:Array (Nat×ByteArray)
 eT:TypeId
 eb:Nat→Nat
 eo:Nat→Nat
structure FI (G:dJ) (w:World):Prop where
 os:w.os=G.os
 tape:w.tape=G.tape
 output:w.output=G.output
abbrev pw:=List (Nat×Obj)
abbrev Hp:=pw→Prop
abbrev dD:=List Hp
def Sep:dD→pw→Prop
 | [],L=>L= []
 |A::H,L=>∃L1 L2,L=L1++L2∧A L1∧Sep H L2
structure lB (w:World) (L:pw):Prop where
 nodup:(L.map (·.1)).Nodup
 at_:∀x∈L,w.heap[x.1]? =some x.2
def Sat (G:dJ) (w:World) (H:dD):Prop:=FI G w∧∃L,Sep H L∧lB w L
def Pt (b:Nat) (o:Obj):Hp:=λL=>L= [(b,o)]
theorem Sat.same {G:dJ}{H:dD}(h:Sat G w H) (hh:w'.heap=w.heap) (hs:FI G w'):Sat G w' H:=by
 obtain⟨_,L,hL,hl⟩:=h;exact⟨hs,L,hL,hl.nodup,by rw[hh];exact hl.at_⟩
theorem Sat.drop {G:dJ}{A:Hp}{H:dD}(h:Sat G w (A::H)):Sat G w H:=by
 obtain⟨b,L,⟨L1,L2,rfl,_,a⟩,hl⟩:=h;refine⟨b,L2,a,?_,λx hx=>hl.at_ x (Yx _ hx)⟩;have:=hl.nodup;rw[Xp]at this;exact(List.nodup_append.1 this).2.1
theorem Sat.cons {G:dJ}{A B:Hp}{H:dD}(h:Sat G w (A::H)) (a:∀L,A L→B L):Sat G w (B::H):=by
 obtain⟨c,L,⟨L1,L2,rfl,h1,b⟩,hl⟩:=h;exact⟨c,_,⟨L1,L2,rfl,a _ h1,b⟩,hl⟩
theorem Sat.imp {G:dJ}{H H':dD}(h:Sat G w H) (b:∀L,Sep H L→∃a,Sep H' a∧(a.Sublist L∨a.Perm L)):Sat G w H':=by
 obtain⟨d,L,hL,hl⟩:=h;obtain⟨a,c,hp⟩:=b L hL;refine⟨d,a,c,?_,?_⟩
 ·rcases hp with hp|hp
  ·exact(hp.map _).nodup hl.nodup
  ·exact((hp.map _).nodup_iff).2 hl.nodup
 ·intro x hx;rcases hp with hp|hp
  ·exact hl.at_ x (hp.subset hx)
  ·exact hl.at_ x (hp.mem_iff.1 hx)
theorem lB.lt {L:pw}(h:lB w L){x:Nat×Obj}(hx:x∈L):x.1<w.heap.size:=by
 have:=h.at_ x hx;exact(Vc.1 this).1
theorem Sat.alloc {G:dJ}{H:dD}(h:Sat G w H) (o:Obj):Sat G {w with heap:=w.heap.push o} (Pt w.heap.size o::H):=by
 obtain⟨a,L,hL,hl⟩:=h;refine⟨⟨a.os,a.tape,a.output⟩,(w.heap.size,o)::L,⟨[(w.heap.size,o)],L,rfl,rfl,hL⟩,?_,?_⟩
 ·rw[Xs,U1];refine⟨λhm=>?_,hl.nodup⟩;obtain⟨x,hx,he⟩:=Xt.1 hm;have:=hl.lt hx;simp only at he;omega
 ·intro x hx;rcases Xo.1 hx with rfl|hx
  ·simp
  ·have:=hl.lt hx;have h2:=hl.at_ x hx;simp only[Array.getElem?_push];rw[if_neg a8];exact h2
theorem lB.change {L1 L2:pw}{o':Obj}(h:lB w (L1++(b,o)::L2)) (d:w'.heap[b]? =some o') (hk:∀i,i≠b→i<w.heap.size→w'.heap[i]? =w.heap[i]?):lB w' (L1++(b,o')::L2):=by
 have hn:=h.nodup;refine⟨by simpa using hn,λx hx=>?_⟩;simp only[Xp,Xs,List.nodup_append,U1]at hn;obtain⟨hn1,⟨c,hn3⟩,a⟩:=hn;rcases Xm.1 hx with hx|hx
 ·have hm:x∈L1++(b,o)::L2:=Yy _ hx;rw[hk x.1 (λhe=>a x.1 (Vj hx) b aq he) (h.lt hm)];exact h.at_ x hm
 ·rcases Xo.1 hx with rfl|hx
  ·exact d
  ·have hm:x∈L1++(b,o)::L2:=Yx _ (Xa _ hx);rw[hk x.1 (λhe=>c (he ▸ Vj hx)) (h.lt hm)];exact h.at_ x hm
class Has (H:dD) (b:Nat) (o:outParam Obj):Prop where
 mem:∀L,Sep H L→(b,o)∈L
instance Has.tail {A:Hp}{H:dD}{b:Nat}{o:Obj} [h:Has H b o]:Has (A::H) b o:=
 ⟨λL hL=>by obtain⟨L1,L2,rfl,_,h2⟩:=hL;exact Yx _ (h.mem _ h2)⟩
instance Has.head {H:dD}{b:Nat}{o:Obj}:Has (Pt b o::H) b o:=
 ⟨λL hL=>by obtain⟨L1,L2,rfl,h1,_⟩:=hL;rw[show L1= [(b,o)]from h1];simp⟩
theorem Has.get {G:dJ}{H:dD}(h:Has H b o) (hs:Sat G w H):w.heap[b]? =some o:=by
 obtain⟨_,L,hL,hl⟩:=hs;exact hl.at_ _ (h.mem L hL)
class Foc (H:dD) {ι α:Type}(K:ι→α→Hp) (i:ι) (a:outParam α) (C:outParam (Hp→dD)):Prop where
 foc:∀L,Sep H L→∃L1 M L2,L=L1++(M++L2)∧K i a M∧∀(B:Hp) M',B M'→Sep (C B) (L1++(M'++L2))
instance Foc.tail {A:Hp}{H:dD}{ι α:Type}{K:ι→α→Hp}{i:ι}{a:α}{C:Hp→dD} [h:Foc H K i a C]:Foc (A::H) K i a (λB=>A::C B):=
 ⟨λL hL=>by
  obtain⟨N1,N2,rfl,hA,h2⟩:=hL
  obtain⟨L1,M,L2,rfl,hM,hB⟩:=h.foc _ h2
  refine⟨N1++L1,M,L2,aq,hM,λB M' hm=>⟨N1,L1++(M'++L2),aq,hA,hB B M' hm⟩⟩⟩
instance Foc.head {H:dD}{ι α:Type}{K:ι→α→Hp}{i:ι}{a:α}:Foc (K i a::H) K i a (λB=>B::H):=
 ⟨λL hL=>by
  obtain⟨L1,L2,rfl,h1,h2⟩:=hL
  exact⟨[],L1,L2,rfl,h1,λB M' hm=>⟨M',L2,rfl,hm,h2⟩⟩⟩
theorem Foc.sat {G:dJ}{H:dD}{ι α:Type}{K:ι→α→Hp}{i:ι}{a:α}{C:Hp→dD}(h:Foc H K i a C) (hs:Sat G w H) (B:Hp) (b:∀M,K i a M→B M):Sat G w (C B):=by
 obtain⟨c,L,hL,hl⟩:=hs;obtain⟨L1,M,L2,rfl,d,e⟩:=h.foc _ hL;exact⟨c,_,e B M (b M d),hl⟩
theorem Foc.get {G:dJ}{H:dD}{C:Hp→dD}(h:Foc H Pt b o C) (hs:Sat G w H):w.heap[b]? =some o:=by
 obtain⟨_,L,hL,hl⟩:=hs;obtain⟨L1,M,L2,rfl,a,_⟩:=h.foc _ hL;have hM':M= [(b,o)]:=a;subst hM';exact hl.at_ (b,o) aq
theorem Foc.change {G:dJ}{H:dD}{o':Obj}{C:Hp→dD}(h:Foc H Pt b o C) (hs:Sat G w H) (c:FI G w') (a:w'.heap[b]? =some o') (hk:∀i,i≠b→i<w.heap.size→w'.heap[i]? =w.heap[i]?):Sat G w' (C (Pt b o')):=by
 obtain⟨_,L,hL,hl⟩:=hs;obtain⟨L1,M,L2,rfl,d,e⟩:=h.foc _ hL;have hM':M= [(b,o)]:=d;subst hM';have:=e (Pt b o') [(b,o')] rfl;exact⟨c,_,this,by simpa using lB.change bQ a hk⟩
abbrev Tm:=List (Nat×Value)
def look:Tm→Nat→Option Value
 | [],_=>none
 |(m,v)::t,n=>bif Nat.beq m n then some v else look t n
def evo (t:Tm):Operand→Option Value
 | .tmp n=>look t n
 | .const v=>some v
 | .global g=>some (.pointer (some ⟨g,0,none⟩))
 | .func f=>some (.func (.func f) #[] #[])
def ui (t:Tm):List Operand→Option (List Value)
 | []=>some []
 |x::xs=>match evo t x,ui t xs with
  |some v,some vs=>some (v::vs)
  |_,_=>none
structure Fr (N:Nat) (t:Tm) (a:Act):Prop where
 size:a.tmps.size=N
 defers:a.defers= []
 look:∀n v,look t n=some v→a.tmps[n]? =some v
def E6 (t:Tm) (ρ:Operand→Value):Prop:=∀x v,evo t x=some v→ρ x=v
theorem Fr.agree {t:Tm}(h:Fr N t a):E6 t a.eval:=by
 intro x v hx;cases x with
 |tmp n=>simp only[Act.eval,Array.getD_eq_getD_getElem?,h.look n v hx,V4]
 |const u=>exact Xk hx
 |global g=>exact Xk hx
 |func f=>exact Xk hx
def put (t:Tm):Option Tmp→Value→Tm
 |none,_=>t
 |some d,v=>(d,v)::t
def iJ (N:Nat):Option Tmp→Bool
 |none=>true
 |some d=>Nat.blt d N
theorem Fr.put {t:Tm}{d:Option Tmp}(h:Fr N t a) (hd:iJ N d=true) (v:Value):Fr N (put t d v) (a.put d v):=by
 cases d with
 |none=>exact h
 |some d=>
  have b:d<N:=by simpa [iJ] using hd
  refine⟨by simp[Act.put,h.size],h.defers,λn u hn=>?_⟩;simp only[Sx.put,Sx.look]at hn;simp only[Act.put,X8]
  by_cases e:d=n
  ·subst e;simp at hn;subst hn;simp[h.size,b]
  ·have c:Nat.beq d n=false:=by
    cases c:Nat.beq d n with
    |false=>rfl
    |true=>exact absurd (V1 c) e
   rw[c]at hn;rw[if_neg e];exact h.look n u hn
def Sub (t' t:Tm):Prop:=∀n v,look t' n=some v→look t n=some v
theorem Fr.sub {t b:Tm}(h:Fr N t a) (hs:Sub b t):Fr N b a:=⟨h.size,h.defers,λn v hn=>h.look n v (hs n v hn)⟩
theorem Sub.nil {t:Tm}:Sub [] t:=λ_ _ h=>bx
theorem Sub.cons {t a:Tm}{n:Nat}{v:Value}(h:look t n=some v) (hs:Sub a t):Sub ((n,v)::a) t:=by
 intro m u hm;simp only[look]at hm;cases hb:Nat.beq n m with
 |true=>
  rw[hb]at hm;obtain rfl:=V1 hb;simp at hm;rw[←hm];exact h
 |false=>rw[hb]at hm;exact hs m u hm
theorem Sub.refl {t:Tm}:Sub t t:=λ_ _ h=>h
abbrev iN (n:Nat):Value:=.int .i64 (n:Int)
abbrev uN (n:Nat):Value:=.int .u64 (n:Int)
abbrev pA (b:Nat):Value:=.pointer (some ⟨b,0,none⟩)
theorem ex {α:Sort _}(e:α):∃x,x=e:=⟨_,rfl⟩
end
section
variable {A:Hp}{H':dD}{K R:Value→dD→Prop}{a:Act}{after:Array Edge}{args:List Value}{b want:Bool}{c y:Code}{dst:Option Tmp}{f:FuncId}{fn:Func}{id:Nat}{l:List Oper}{o:Oper}{op:Op}{ops:Array Oper}{pos:String}{ty:TypeId}{v:Value}{w:World}
section
variable (G:dJ) (P:Program) (N:Nat)
abbrev Post:=Exit→Tm→dD→Prop
def up (Q:Post):Exit→Act→World→Prop:=λe a w=>∃t H,Fr N t a∧Sat G w H∧Q e t H
structure W (c:Code) (Q:Post) (t:Tm) (H:dD):Prop where
 go:∀a w,Fr N t a→Sat G w H→Code.wp P c (up G N Q) a w
structure O (ops:Array Oper) (l:List Oper) (Q:Post) (t:Tm) (H:dD):Prop where
 go:∀a w,Fr N t a→Sat G w H→wpList P ops (up G N Q) l a w
def J7 (y:Code) (Q:Post):Post:=λe t H=>match e with
 | .normal=>W G P N y Q t H
 |e=>Q e t H
def BC (id:Nat) (Q:Post):Post:=λe t H=>match e with
 | .exit id'=>bif Nat.beq id' id then Q .normal t H else Q (.exit id') t H
 |e=>Q e t H
end
section
variable {G:dJ}{P:Program}{N:Nat}{Q:Post}{t:Tm}{H:dD}
theorem Nt {Q b:Post}(h:∀e t H,Q e t H→b e t H){e:Exit}(c:up G N Q e a w):up G N b e a w:=
 let ⟨t,H,h1,h2,h3⟩:=c
 ⟨t,H,h1,h2,h _ _ _ h3⟩
theorem Jf (h:Q .normal t H):W G P N .skip Q t H:=⟨λ_ _ ha a=>wp_skip ⟨t,H,ha,a,h⟩⟩
theorem Rr (h:Q (.exit id) t H):W G P N (.exit id) Q t H:=⟨λ_ _ ha a=>wp_exit ⟨t,H,ha,a,h⟩⟩
theorem UT (h:Q .ret t H):W G P N .ret Q t H:=⟨λ_ _ ha a=>wp_ret ⟨t,H,ha,a,h⟩⟩
theorem yV {x:Code}(h:W G P N x (J7 G P N y Q) t H):W G P N (.seq x y) Q t H:=
 ⟨λa w ha i=>wp_seq (wp_mono (h.go a w ha i) λe k f j=>by
  obtain⟨g,H',c,b,d⟩:=j;cases e <;> first|exact d.go k f c b|exact⟨g,H',c,b,d⟩)⟩
theorem Np (h:W G P N c (BC id Q) t H):W G P N (.block id c) Q t H:=
 ⟨λa w ha i=>wp_block (wp_mono (h.go a w ha i) λe a' w' j=>by
  obtain⟨g,H',d,b,f⟩:=j;cases e with
  |exit id'=>
   simp only[BC]at f;simp only[Exit.inBlock];cases hb:Nat.beq id' id with
   |true=>
    rw[hb]at f;rw[if_pos (V1 hb)];exact⟨g,H',d,b,f⟩
   |false=>
    rw[hb]at f;rw[if_neg (λe=>by rw[e]at hb;exact absurd (Nat.beq_refl id) (by rw[hb];simp))];exact⟨g,H',d,b,f⟩
  |_=>exact⟨g,H',d,b,f⟩)⟩
theorem No {c:Operand}{x:Code}(hc:evo t c=some (.bool b)) (e:b=true→W G P N x Q t H) (hf:b=false→W G P N y Q t H):W G P N (.cond c x y) Q t H:=
 ⟨λa w ha d=>wp_cond (t:=b) (ha.agree c _ hc) (by
  cases b with
  |true=>exact(e rfl).go a w ha d
  |false=>exact(hf rfl).go a w ha d)⟩
theorem HA {c:Operand}{x:Code}(hc:evo t c=some (.bool true)) (a:W G P N x Q t H):W G P N (.cond c x y) Q t H:=
 No hc (λ_=>a) (λh=>bx)
theorem Ea {c:Operand}{x:Code}(hc:evo t c=some (.bool false)) (a:W G P N y Q t H):W G P N (.cond c x y) Q t H:=
 No hc (λh=>bx) (λ_=>a)
theorem Jg (h:O G P N l.toArray l Q t H):W G P N (.region id l.toArray false) Q t H:=
 ⟨λa w ha b=>wp_region_lit (h.go a w ha b)⟩
theorem L0 (h:Q .normal t H):O G P N ops [] Q t H:=⟨λ_ _ ha a=>wpList_nil ⟨t,H,ha,a,h⟩⟩
theorem FR {b:Tm}(hs:Sub b t) (h:W G P N c Q b H):W G P N c Q t H:=⟨λa w ha d=>h.go a w (ha.sub hs) d⟩
theorem Al {b:Post}(h:W G P N c b t H) (g:∀e t H,b e t H→Q e t H):W G P N c Q t H:=⟨λa w ha d=>wp_mono (h.go a w ha d) λ_ _ _ f=>Nt g f⟩
def dH (H H':dD):Prop:=∀L,Sep H L→∃L' M,Sep H' L'∧(L'++M).Perm L
theorem dH.refl {H:dD}:dH H H:=λL h=>⟨L, [],h,aq⟩
theorem dH.trans {H a:dD}(h:dH H H') (b:dH H' a):dH H a:=λL hL=>
 let ⟨L',M,h1,h2⟩:=h L hL
 let ⟨L'',M',h3,h4⟩:=b L' h1
 ⟨L'',M'++M,h3,by rw[←Yf];exact(h4.append_right M).trans h2⟩
theorem dH.drop {H:dD}(h:dH H H'):dH (A::H) H':=λL hL=>by
 obtain⟨L1,L2,rfl,_,h2⟩:=hL;obtain⟨a,M,h3,h4⟩:=h L2 h2;exact⟨a,M++L1,h3,by rw[←Yf];exact(h4.append_right L1).trans List.perm_append_comm⟩
theorem dH.imp {B:Hp}{H:dD}(a:∀L,A L→B L) (h:dH H H'):dH (A::H) (B::H'):=λL hL=>by
 obtain⟨L1,L2,rfl,h1,h2⟩:=hL;obtain⟨b,M,h3,h4⟩:=h L2 h2;exact⟨L1++b,M,⟨L1,b,rfl,a _ h1,h3⟩,by rw[Yf];exact h4.append_left L1⟩
theorem dH.keep {H:dD}(h:dH H H'):dH (A::H) (A::H'):=dH.imp (λ_ h=>h) h
theorem dH.add {H:dD}(hA:A []) (h:dH H H'):dH H (A::H'):=λL hL=>by
 obtain⟨a,M,h3,h4⟩:=h L hL;exact⟨a,M,⟨[],a,rfl,hA,h3⟩,h4⟩
theorem dH.sat {H:dD}(h:dH H H') (a:Sat G w H):Sat G w H':=by
 obtain⟨b,L,hL,hl⟩:=a;obtain⟨c,M,h1,h2⟩:=h L hL;refine⟨b,c,h1,?_,λx hx=>hl.at_ x (h2.mem_iff.1 (Yy M hx))⟩;have h3:=((h2.map (·.1)).nodup_iff).2 hl.nodup;rw[Xp]at h3;exact(List.nodup_append.1 h3).1
def yE {α:Type}(I:α→Prop) (fr:α→Tm) (hp:α→dD) (μ:α→Nat) (x:α) (Q:Post):Post:=λe t H=>match e with
 | .normal=>∃y,I y∧μ y<μ x∧Sub (fr y) t∧dH H (hp y)
 |e=>Q e t H
theorem Jh (α:Type) (I:α→Prop) (fr:α→Tm) (hp:α→dD) (μ:α→Nat) (u:α) (h0:I u) (hs:Sub (fr u) t) (hh:dH H (hp u)) (i:∀x,I x→W G P N c (yE I fr hp μ x Q) (fr x) (hp x)):W G P N (.loop c) Q t H:=by
 refine⟨λa w ha B=>?_⟩;intro b k F;have A:∀n x,μ x=n→I x→∀a w,Fr N (fr x) a→Sat G w (hp x)→
  ∃e z v,up G N Q e z v∧Arrives P (lone (b.at a (.code c:: .inLoop c::k)) F w) b k F e z v:=by
  intro n
  induction n using Nat.strongRecOn with
  |_ n ih=>
   intro x hn hI a w ha B;obtain⟨e,p,m,h,d⟩:=(i x hI).go a w ha B b (.inLoop c::k) F;obtain⟨q,H',g,f,h⟩:=h;cases e with
   |normal=>
    obtain⟨y,hy,E,r,s⟩:=h;obtain⟨K,L,J,C,j⟩:=ih (μ y) (hn ▸ E) y rfl hy p m (g.sub r) (s.sat f);exact⟨K,L,J,C,.of_steps (Steps.trans d (.one step_inLoop)) j⟩
   |exit id=>exact⟨_,p,m,⟨q,H',g,f,h⟩,.pass (x:=.inLoop c) rfl (λ_ _=>.inl aq) d⟩
   |goto l=>exact⟨_,p,m,⟨q,H',g,f,h⟩,.pass (x:=.inLoop c) rfl (λ_ _=>.inl aq) d⟩
   |ret=>exact⟨_,p,m,⟨q,H',g,f,h⟩,.pass (x:=.inLoop c) rfl (λ_ _=>.inl aq) d⟩
   |panic ch=>exact⟨_,p,m,⟨q,H',g,f,h⟩,.pass (x:=.inLoop c) rfl (λ_ _=>.inl aq) d⟩
   |outgrown=>exact⟨_,p,m,⟨q,H',g,f,h⟩,.pass (x:=.inLoop c) rfl (λ_ _=>.inl aq) d⟩
 obtain⟨e,z,v,h,d⟩:=A _ u rfl h0 a w (ha.sub hs) (hh.sat B);exact⟨e,z,v,h,.of_steps (.one step_loop) d⟩
theorem a0g (h:Q .normal t H):BC id Q (.exit id) t H:=by
 show(bif Nat.beq id id then Q .normal t H else Q (.exit id) t H);rw[show Nat.beq id id=true from Nat.beq_refl id];exact h
theorem a0f {a:Nat}(b:Nat.beq a id=false) (h:Q (.exit a) t H):BC id Q (.exit a) t H:=by
 show(bif Nat.beq a id then Q .normal t H else Q (.exit a) t H);rw[b];exact h
section
variable {α:Type}{I:α→Prop}{fr:α→Tm}{hp:α→dD}{μ:α→Nat}{x:α}
end
structure SC (G:dJ) (P:Program) (f:FuncId) (args:List Value) (H:dD) (K:Value→dD→Prop):Prop where
 enter:∀(a_s:Array Value) w,(callFunc f a_s).run P w=.ok (.enter f a_s) w
 call:∀w,Sat G w H→Calls P f args.toArray w λe w'=>match e with
  | .returned v=>∃H',Sat G w' H'∧K v H'
  |_=>False
theorem SC.mono {K':Value→dD→Prop}(h:SC G P f args H K) (hk:∀v H',K v H'→K' v H'):SC G P f args H K':=
 ⟨h.enter,λw a=>(h.call w a).mono λe w' he=>by
  cases e with
  |returned v=>obtain⟨H',h1,h2⟩:=he;exact⟨H',h1,hk _ _ h2⟩
  |_=>exact he.elim⟩
theorem SC.heap (h:SC G P f args H' K) (hs:∀w,Sat G w H→Sat G w H'):SC G P f args H K:=
 ⟨h.enter,λw a=>h.call w (hs w a)⟩
def Ev (G:dJ) (P:Program) (o:Oper) (t:Tm) (H:dD) (v:Value):Prop:=
 ∀ρ,E6 t ρ→∀w,Sat G w H→(execOp ρ o).run P w=.ok (.value v) w
def ou (G:dJ) (P:Program) (R:Value→dD→Prop):Result Next→Prop
 | .ok (.value v) w'=>∃H',Sat G w' H'∧R v H'
 | .ok .skip w'=>∃H',Sat G w' H'∧R undef H'
 | .ok (.enter f args) w'=>Calls P f args w' λe w''=>match e with
  | .returned v=>∃H',Sat G w'' H'∧R v H'
  |_=>False
 |_=>False
def St (G:dJ) (P:Program) (o:Oper) (t:Tm) (H:dD) (R:Value→dD→Prop):Prop:=
 ∀ρ,E6 t ρ→∀w,Sat G w H→ou G P R ((execOp ρ o).run P w)
theorem Ev.st (h:Ev G P o t H v):St G P o t H (λu H'=>u=v∧H'=H):=
 fun ρ hρ w hw=>by rw[h ρ hρ w hw];exact⟨H,hw,rfl,rfl⟩
theorem ou.wp {next:Act→World→Prop}(h:ou G P R ((execOp a.eval o).run P w)) (hn:∀v w' H',Sat G w' H'→R v H'→next (a.put o.dst v) w'):o.wp P a w next (up G N Q):=by
 unfold Oper.wp;generalize (execOp a.eval o).run P w=r at*;cases r with
 |ok n w'=>
  cases n <;> simp only[ou]at h <;> simp only[Oper.upon]
  case value v=>obtain⟨H',h1,h2⟩:=h;exact hn _ _ _ h1 h2
  case skip=>obtain⟨H',h1,h2⟩:=h;exact hn _ _ _ h1 h2
  case enter f args=>
   refine h.mono λe w'' he=>?_;cases e with
   |returned v=>obtain⟨H',h1,h2⟩:=he;exact hn _ _ _ h1 h2
   |_=>exact he.elim
 |halt x w'=>simp only[ou]at h
theorem CJ (h:St G P ⟨dst,op,ty,pos,after,none⟩ t H R) (hd:iJ N dst=true) (hk:∀v H',R v H'→O G P N ops l Q (put t dst v) H'):
 O G P N ops (⟨dst,op,ty,pos,after,none⟩::l) Q t H:=by
 refine⟨λa w ha c=>?_⟩;unfold wpList;rw[if_pos cM];exact .inl ((h a.eval ha.agree w c).wp λv w' H' b hr=>(hk v H' hr).go _ _ (ha.put hd v) b)
theorem L7 (h:Ev G P ⟨dst,op,ty,pos,after,none⟩ t H v) (hd:iJ N dst=true) (hk:O G P N ops l Q (put t dst v) H):
 O G P N ops (⟨dst,op,ty,pos,after,none⟩::l) Q t H:=
 CJ h.st hd (λ_ _ ⟨e1,e2⟩=>by rw[e1,e2];exact hk)
theorem oy {j d:Nat}(ha:Fr N t a) (c:o.guard=some (j,want)) (hj:(ops[j]?).bind (·.dst)=some d) (e:look t d=some (.bool b)):
 Region.wanted o (yielded ops a.tmps)=(b==want):=by
 have h1:a.tmps[d]? =some (.bool b):=ha.look _ _ e;have h2:yielded ops a.tmps j=some b:=by
  unfold yielded;rw[hj];simp[h1]
 unfold Region.wanted;rw[c];simp only[h2];cases b <;> cases want <;> rfl
theorem xH {j d:Nat}(hj:(ops[j]?).bind (·.dst)=some d) (g:look t d=some (.bool b)) (h:b=want→St G P ⟨dst,op,ty,pos,after,some (j,want)⟩ t H R) (hd:iJ N dst=true) (hk:b=want→∀v H',R v H'→O G P N ops l Q (put t dst v) H') (hn:b≠want→O G P N ops l Q (put t dst undef) H):
 O G P N ops (⟨dst,op,ty,pos,after,some (j,want)⟩::l) Q t H:=by
 refine⟨λa w ha f=>?_⟩;unfold wpList;rw[oy (o:=⟨dst,op,ty,pos,after,some (j,want)⟩) ha rfl hj g]
 by_cases e:b=want
 ·rw[if_pos (by simp[e])];exact .inl ((h e a.eval ha.agree w f).wp λv w' H' c hr=>(hk e v H' hr).go _ _ (ha.put hd v) c)
 ·rw[if_neg (by simp[e])];exact(hn e).go _ _ (ha.put hd undef) f
theorem nv {t:Tm}{ρ:Operand→Value}(hρ:E6 t ρ):∀{xs:List Operand}{vs:List Value},ui t xs=some vs→xs.map ρ=vs
 | [],_,h=>by cases h;rfl
 |x::xs,vs,h=>by
  simp only[ui]at h
  split at h
  ·rename_i v us h1 h2;cases h;rw[Xs,hρ x v h1,nv hρ h2]
  ·cases h
theorem lU {xs:List Operand}{a:Array TypeId}{g:Option (Nat×Bool)}{vs:List Value}(hx:ui t xs=some vs) (hc:SC G P f vs H K):St G P ⟨dst,.call ⟨.value (.func f),xs.toArray,a⟩,ty,pos,after,g⟩ t H K:=by
 intro ρ hρ w b;have h1:ρ (.func f)=.func (.func f) #[] #[]:=hρ _ _ rfl;have h2:xs.toArray.map ρ=vs.toArray:=cz;have:(execOp ρ ⟨dst,.call ⟨.value (.func f),xs.toArray,a⟩,ty,pos,after,g⟩).run P w=.ok (.enter f vs.toArray) w:=by
  simp only[execOp,resolve,h1,h2,Deferred.ofValue,Sem.run_bind,Sem.run_pure,Result.andThen_ok];simp only[invoke,Array.append_empty,Array.empty_append];exact hc.enter _ _
 rw[this];exact hc.call w b
def w3:Nat→List Value→Tm
 |_, []=>[]
 |k,v::vs=>(k,v)::w3 (k+1) vs
theorem xN:∀(args:List Value) (k n:Nat) (v:Value),look (w3 k args) n=some v→k≤n∧args[n-k]? =some v:=by
 intro args
 induction args with
 |nil=>intro k n v h;cases h
 |cons a a_s ih=>
  intro k n v h;simp only[w3,look]at h;cases hb:Nat.beq k n with
  |true=>
   obtain rfl:=V1 hb;rw[hb]at h;simp at h;exact⟨Xl _,by simp[h]⟩
  |false=>
   rw[hb]at h;obtain⟨h1,h2⟩:=ih (k+1) n v h;refine⟨a8,?_⟩;rw[show n-k=(n-(k+1))+1 from a8,Xc];exact h2
def N9 (P:Program) (fn:Func) (K:Value→dD→Prop):Post:=λe t H=>(e=.normal∨e=.ret)∧∃v,K v H∧∀G N a w,Fr N t a→Sat G w H→(results fn a.tmps).run P w=.ok v w
theorem Ki (hf:P.funcs[f]? =some fn) (i:fn.body=some c) (hn:(fn.name== "runtime.NumGoroutine")=false) (g:Tm) (l:∀n v,look g n=some v→args[n]? =some v) (hle:args.length≤fn.ntmps) (h:W G P fn.ntmps c (N9 P fn K) g H):SC G P f args H K:=by
 refine⟨λas w=>?_,λw j=>?_⟩
 ·have hn':¬fn.name= "runtime.NumGoroutine" :=by simpa using hn
  simp[callFunc,hf,i,hn']
 ·refine calls_of_wp hf i (wp_mono (h.go _ w ?_ j) ?_)
  ·refine⟨aQ,rfl,λn v hv=>?_⟩;have:=l n v hv;have d:n<args.length:=(Yk.1 this).1;rw[Uu (by simpa using d)]
   simpa using this
  ·intro e a' w' k;obtain⟨t',H',b,a,he,v,hv,hr⟩:=k;rcases he with rfl|rfl
   ·exact⟨b.defers,v,hr _ _ _ _ b a,H',a,hv⟩
   ·exact⟨b.defers,v,hr _ _ _ _ b a,H',a,hv⟩
theorem YV {N:Nat}(hf:P.funcs[f]? =some fn) (b:fn.body=some c) (hN:fn.ntmps=N) (hn:(fn.name== "runtime.NumGoroutine")=false) (a:args.length≤N) (h:W G P N c (N9 P fn K) (w3 0 args) H):SC G P f args H K:=by
 subst hN;exact Ki hf b hn (w3 0 args) (λn v hv=>(xN args 0 n v hv).2) a h
end
end
section
variable {T U:TypeId}{a b i j:Int}{ats:Array TypeId}{ds:TypeDesc}{k k':IntKind}{v:Value}{x y:Operand}
class Und (P:Program) (T:TypeId) (d:outParam TypeDesc):Prop where
 out:P.underlying T=some d
class Inf (P:Program) (T:TypeId) (size bytes:outParam Nat) (zero:outParam Value):Prop where
 out:∃i,P.info? T=some i∧i.size=size∧i.bytes=bytes∧i.zero=some zero
class One (P:Program) (T:TypeId):Prop where
 out:∃d,P.underlying T=some d∧(match d with| .struct _| .array _ _=>false|_=>true)=true
class Agg (P:Program) (T:TypeId) (size:outParam Nat):Prop where
 out:∃d i,P.underlying T=some d∧(match d with| .struct _| .array _ _=>true|_=>false)=true∧P.info? T=some i∧i.size=size
class Fld (P:Program) (T:TypeId) (k:Nat) (off:outParam Nat):Prop where
 out:∃fs f i,P.underlying T=some (.struct fs)∧fs[k]? =some f∧f.offset=off∧P.info? f.type=some i∧i.size≠0
section
variable {G:dJ}{P:Program}{t:Tm}{H:dD}{dst:Option Tmp}{ty:TypeId}{pos:String}{after:Array Edge}{g:Option (Nat×Bool)}
theorem PL (hx:evo t x=some v):Ev G P ⟨dst,.move x,ty,pos,after,g⟩ t H v:=
 fun ρ hρ w _=>by simp[execOp,hρ x v hx]
theorem zN (hx:evo t x=some v):Ev G P ⟨dst,.assign x,ty,pos,after,g⟩ t H v:=
 fun ρ hρ w _=>by simp[execOp,hρ x v hx]
theorem Ft {i:Nat}{vs:Array Value}(hx:evo t x=some (.tuple vs)) (hv:vs[i]? =some v):
 Ev G P ⟨dst,.extract x i,ty,pos,after,g⟩ t H v:=
 fun ρ hρ w _=>by simp[execOp,hρ _ _ hx,Instr.extract,hv]
theorem D8 {a:Addr}(hx:evo t x=some (.pointer (some a))):Ev G P ⟨dst,.nilCheck x,ty,pos,after,g⟩ t H (.pointer (some a)):=
 fun ρ hρ w _=>by simp[execOp,hρ _ _ hx]
theorem kH {z:Int}(h: -9223372036854775808≤z∧z≤9223372036854775807):IntKind.i64.wrap z=z:=by
 rw[IntKind.wrap_i64];omega
theorem Bg (hx:evo t x=some (.int .i64 a)) (hy:evo t y=some (.int .i64 b)) (h: -9223372036854775808≤a+b∧a+b≤9223372036854775807):
 Ev G P ⟨dst,.binOp .add T x y U,ty,pos,after,g⟩ t H (.int .i64 (a+b)):=
 fun ρ hρ w _=>bK
theorem Mm (hx:evo t x=some (.int .i64 a)) (hy:evo t y=some (.int .i64 b)) (h: -9223372036854775808≤a-b∧a-b≤9223372036854775807):
 Ev G P ⟨dst,.binOp .sub T x y U,ty,pos,after,g⟩ t H (.int .i64 (a-b)):=
 fun ρ hρ w _=>bK
theorem TZ (hx:evo t x=some (.int .i64 a)) (hy:evo t y=some (.int .i64 b)) (h: -9223372036854775808≤a*b∧a*b≤9223372036854775807):
 Ev G P ⟨dst,.binOp .mul T x y U,ty,pos,after,g⟩ t H (.int .i64 (a*b)):=
 fun ρ hρ w _=>bK
theorem Mq (hx:evo t x=some (.int .i64 a)) (h: -9223372036854775808≤ -a∧ -a≤9223372036854775807):
 Ev G P ⟨dst,.unOp .neg T x,ty,pos,after,g⟩ t H (.int .i64 (-a)):=
 fun ρ hρ w _=>by simp[execOp,hρ _ _ hx,Op.unary,Op.intArith,kH h]
theorem UA (hx:evo t x=some (.int k a)) (hy:evo t y=some (.int k b)):
 Ev G P ⟨dst,.binOp .lss T x y U,ty,pos,after,g⟩ t H (.bool (decide (a<b))):=
 fun ρ hρ w _=>bn
theorem UB (hx:evo t x=some (.int k a)) (hy:evo t y=some (.int k b)):
 Ev G P ⟨dst,.binOp .leq T x y U,ty,pos,after,g⟩ t H (.bool (decide (a≤b))):=
 fun ρ hρ w _=>bn
theorem UD (hx:evo t x=some (.int k a)) (hy:evo t y=some (.int k b)):
 Ev G P ⟨dst,.binOp .gtr T x y U,ty,pos,after,g⟩ t H (.bool (decide (b<a))):=
 fun ρ hρ w _=>bn
theorem UE (hx:evo t x=some (.int k a)) (hy:evo t y=some (.int k b)):
 Ev G P ⟨dst,.binOp .geq T x y U,ty,pos,after,g⟩ t H (.bool (decide (b≤a))):=
 fun ρ hρ w _=>bn
theorem UF (hx:evo t x=some (.int k a)) (hy:evo t y=some (.int k b)):
 Ev G P ⟨dst,.binOp .eql T x y U,ty,pos,after,g⟩ t H (.bool (decide (a=b))):=
 fun ρ hρ w _=>by
  have e:(a==b)=decide (a=b):=by rw[U2];simp
  simp[execOp,hρ _ _ hx,hρ _ _ hy,eqGuard,binOp,Op.intCmp,e]
theorem TY (hx:evo t x=some (.int k a)) (hy:evo t y=some (.int k b)):
 Ev G P ⟨dst,.binOp .neq T x y U,ty,pos,after,g⟩ t H (.bool (decide (a≠b))):=
 fun ρ hρ w _=>by
  have e:(a !=b)=decide (a≠b):=by rw[U2];simp
  simp only[execOp,hρ _ _ hx,hρ _ _ hy,eqGuard,binOp,Op.intCmp];simp[e]
theorem TX {b:Bool}(hx:evo t x=some (.bool b)):Ev G P ⟨dst,.unOp .not T x,ty,pos,after,g⟩ t H (.bool !b):=
 fun ρ hρ w _=>by simp[execOp,hρ _ _ hx,Op.unary]
theorem l9 (hk:k.signed=false) (n:Nat):k.wrap (n:Int)=((n%2^k.bits:Nat):Int):=by
 cases k <;> simp_all [IntKind.wrap,IntKind.signed,IntKind.bits] <;> omega
theorem iL (m n:Nat):BitVec.ofInt m (n:Int)=BitVec.ofNat m n:=by
 simp
theorem PS (hx:evo t x=some (.int k i)) (hy:evo t y=some (.int k j)) (hk:k.signed=false) (a b:Nat) (ha:i=a) (c:j=b):
 Ev G P ⟨dst,.binOp .add T x y U,ty,pos,after,g⟩ t H (.int k (((a+b)%2^k.bits:Nat):Int)):=
 fun ρ hρ w _=>by
  have e:k.wrap ((a:Int)+(b:Int))=(((a+b)%2^k.bits:Nat):Int):=by rw[←l9 hk];congr 1
  simp only[execOp,hρ _ _ hx,hρ _ _ hy,eqGuard,binOp,Op.intArith,ha,c];simp[e]
theorem PK (hx:evo t x=some (.int k i)) (hy:evo t y=some (.int k j)) (hk:k.signed=false) (a b:Nat) (ha:i=a) (c:j=b):
 Ev G P ⟨dst,.binOp .mul T x y U,ty,pos,after,g⟩ t H (.int k (((a*b)%2^k.bits:Nat):Int)):=
 fun ρ hρ w _=>by
  have e:k.wrap ((a:Int)*(b:Int))=(((a*b)%2^k.bits:Nat):Int):=by rw[←l9 hk,Int.natCast_mul]
  simp only[execOp,hρ _ _ hx,hρ _ _ hy,eqGuard,binOp,Op.intArith,ha,c];simp[e]
theorem PF (hx:evo t x=some (.int k i)) (hy:evo t y=some (.int k j)) (hk:k.signed=false) (a b:Nat) (ha:i=a) (d:j=b) (c:b≤a) (hlt:a<2^k.bits):
 Ev G P ⟨dst,.binOp .sub T x y U,ty,pos,after,g⟩ t H (.int k ((a-b:Nat):Int)):=
 fun ρ hρ w _=>by
  have e:k.wrap ((a:Int)-(b:Int))=((a-b:Nat):Int):=by
   rw[←Int.ofNat_sub c,l9 hk,Xw a8]
  simp only[execOp,hρ _ _ hx,hρ _ _ hy,eqGuard,binOp,Op.intArith,ha,d];simp only[Sem.run_bind,Sem.run_pure,e,ne_eq,not_true_eq_false,↓reduceIte];rfl
theorem PR (hx:evo t x=some (.int k i)) (hy:evo t y=some (.int k j)) (hk:k.signed=false) (a b:Nat) (ha:i=a) (f:j=b) (d:a<2^k.bits) (c:b<2^k.bits):
 Ev G P ⟨dst,.binOp .and T x y U,ty,pos,after,g⟩ t H (.int k ((a &&& b:Nat):Int)):=
 fun ρ hρ w _=>by
  have e:(BitVec.ofInt k.bits (a:Int) &&& BitVec.ofInt k.bits (b:Int)).toNat=a &&& b:=by
   rw[iL,iL,BitVec.toNat_and,BitVec.toNat_ofNat,BitVec.toNat_ofNat,Xw d,Xw c]
  have h:k.wrap ((a &&& b:Nat):Int)=((a &&& b:Nat):Int):=by rw[l9 hk,Xw (Nat.and_lt_two_pow _ c)]
  simp only[execOp,hρ _ _ hx,hρ _ _ hy,eqGuard,binOp,Op.intBits,ha,f];simp only[Sem.run_bind,Sem.run_pure,e,h,ne_eq,not_true_eq_false,↓reduceIte];rfl
theorem TW (hx:evo t x=some (.int k i)) (hy:evo t y=some (.int k j)) (hk:k.signed=false) (a b:Nat) (ha:i=a) (f:j=b) (d:a<2^k.bits) (c:b<2^k.bits):
 Ev G P ⟨dst,.binOp .or T x y U,ty,pos,after,g⟩ t H (.int k ((a |||b:Nat):Int)):=
 fun ρ hρ w _=>by
  have e:(BitVec.ofInt k.bits (a:Int) |||BitVec.ofInt k.bits (b:Int)).toNat=a |||b:=by
   rw[iL,iL,BitVec.toNat_or,BitVec.toNat_ofNat,BitVec.toNat_ofNat,Xw d,Xw c]
  have h:k.wrap ((a |||b:Nat):Int)=((a |||b:Nat):Int):=by rw[l9 hk,Xw (U7 d c)]
  simp only[execOp,hρ _ _ hx,hρ _ _ hy,eqGuard,binOp,Op.intBits,ha,f];simp only[Sem.run_bind,Sem.run_pure,e,h,ne_eq,not_true_eq_false,↓reduceIte];rfl
theorem PE (hx:evo t x=some (.int k i)) (hy:evo t y=some (.int k j)) (hk:k.signed=false) (a b:Nat) (ha:i=a) (f:j=b) (d:a<2^k.bits) (c:b<2^k.bits):
 Ev G P ⟨dst,.binOp .xor T x y U,ty,pos,after,g⟩ t H (.int k ((a ^^^ b:Nat):Int)):=
 fun ρ hρ w _=>by
  have e:(BitVec.ofInt k.bits (a:Int) ^^^ BitVec.ofInt k.bits (b:Int)).toNat=a ^^^ b:=by
   rw[iL,iL,BitVec.toNat_xor,BitVec.toNat_ofNat,BitVec.toNat_ofNat,Xw d,Xw c]
  have h:k.wrap ((a ^^^ b:Nat):Int)=((a ^^^ b:Nat):Int):=by rw[l9 hk,Xw (Nat.xor_lt_two_pow d c)]
  simp only[execOp,hρ _ _ hx,hρ _ _ hy,eqGuard,binOp,Op.intBits,ha,f];simp only[Sem.run_bind,Sem.run_pure,e,h,ne_eq,not_true_eq_false,↓reduceIte];rfl
theorem PJ (hx:evo t x=some (.int k i)) (hk:k.signed=false) (a:Nat) (ha:i=a) (c:a<2^k.bits):
 Ev G P ⟨dst,.unOp .xor T x,ty,pos,after,g⟩ t H (.int k (((2^k.bits-1) ^^^ a:Nat):Int)):=
 fun ρ hρ w _=>by
  have hm:(k.max:Int)=((2^k.bits-1:Nat):Int):=by cases k <;> simp_all [IntKind.max,IntKind.signed,IntKind.bits]
  have b:2^k.bits-1<2^k.bits:=by have:=U3 k.bits;omega
  have e:(BitVec.ofInt k.bits ((2^k.bits-1:Nat):Int) ^^^ BitVec.ofInt k.bits (a:Int)).toNat=(2^k.bits-1) ^^^ a:=by
   rw[iL,iL,BitVec.toNat_xor,BitVec.toNat_ofNat,BitVec.toNat_ofNat,Xw c,Xw b]
  have d:k.wrap (((2^k.bits-1) ^^^ a:Nat):Int)=(((2^k.bits-1) ^^^ a:Nat):Int):=by rw[l9 hk,Xw (Nat.xor_lt_two_pow b c)]
  simp only[execOp,hρ _ _ hx,Op.unary,Op.intBits,ha,hk,hm];simp only[Sem.run_bind,Sem.run_pure,e,d,Xx,↓reduceIte];rfl
theorem hX (hx:evo t x=some (.int k i)) (hy:evo t y=some (.int k' j)) (a b:Nat) (ha:i=a) (f:j=b) (c:b≤k.bits):
 Ev G P ⟨dst,.binOp .shr T x y U,ty,pos,after,g⟩ t H (.int k ((a/2^b:Nat):Int)):=
 fun ρ hρ w _=>by
  have e:((a:Int).fdiv (2^b))=((a/2^b:Nat):Int):=by
   rw[Int.fdiv_eq_ediv_of_nonneg _ (by exact Int.pow_nonneg ae)];simp
  simp only[execOp,hρ _ _ hx,hρ _ _ hy,eqGuard,binOp,Op.shift,ha,f];have d:¬((b:Int)<0):=a8;simp[Ug c,e,d]
theorem PH (hx:evo t x=some (.int k i)) (hy:evo t y=some (.int k' j)) (hk:k.signed=false) (a b:Nat) (ha:i=a) (f:j=b):
 Ev G P ⟨dst,.binOp .shl T x y U,ty,pos,after,g⟩ t H (.int k ((a*2^b%2^k.bits:Nat):Int)):=
 fun ρ hρ w _=>by
  have e:k.wrap ((a:Int)*2^min b k.bits)=((a*2^b%2^k.bits:Nat):Int):=by
   rw[show((a:Int)*2^min b k.bits)=((a*2^min b k.bits:Nat):Int)from aq,l9 hk];congr 1;rcases Nat.le_total b k.bits with h|h
   ·rw[Ug h]
   ·rw[Nat.min_eq_right h];obtain⟨c,rfl⟩:=Nat.le.dest h;rw[Uz];rw[show a*(2^k.bits*2^c)=a*2^c*2^k.bits by rw[V5 (2^k.bits),V3]];simp
  simp only[execOp,hρ _ _ hx,hρ _ _ hy,eqGuard,binOp,Op.shift,ha,f];have d:¬((b:Int)<0):=a8;simp[e,d]
theorem Mt {S D:TypeId} [hs:Und P S ds] [hd:Und P D (.int k')] (hx:evo t x=some (.int k i)) (hk:k'.signed=false) (a:Nat) (ha:i=a):
 Ev G P ⟨dst,.convert S D x,ty,pos,after,g⟩ t H (.int k' ((a%2^k'.bits:Nat):Int)):=
 fun ρ hρ w _=>by
  have e:(underlying S).run P w=.ok ds w:=by simp[underlying,hs.out]
  have b:(underlying D).run P w=.ok (.int k') w:=by simp[underlying,hd.out]
  simp only[execOp,convert,hρ _ _ hx,ha,Sem.run_bind,e,b,Result.andThen_ok];cases ds <;> simp[Conv.intToInt,l9 hk]
theorem ew {S D:TypeId} [hs:Und P S ds] [hd:Und P D (.int .i64)] (hx:evo t x=some (.int k i)) (h: -9223372036854775808≤i∧i≤9223372036854775807):
 Ev G P ⟨dst,.convert S D x,ty,pos,after,g⟩ t H (.int .i64 i):=
 fun ρ hρ w _=>by
  have e:(underlying S).run P w=.ok ds w:=by simp[underlying,hs.out]
  have a:(underlying D).run P w=.ok (.int .i64) w:=by simp[underlying,hd.out]
  simp only[execOp,convert,hρ _ _ hx,Sem.run_bind,e,a,Result.andThen_ok];cases ds <;> simp[Conv.intToInt,kH h]
theorem fX (hx:evo t x=some (.int k i)) (hy:evo t y=some (.int k j)) (a b:Nat) (ha:i=a) (f:j=b) (hp:0<b) (d:(a:Int)≤k.max):
 Ev G P ⟨dst,.binOp .quo T x y U,ty,pos,after,g⟩ t H (.int k ((a/b:Nat):Int)):=
 fun ρ hρ w _=>by
  have h0:¬((b:Int)=0):=a8;have hd:a/b≤a:=Nat.div_le_self a b;have e:k.wrap ((a:Int).tdiv (b:Int))=((a/b:Nat):Int):=by
   rw[Int.tdiv_eq_ediv_of_nonneg a8,←Int.natCast_ediv];generalize a/b=c at*;cases k <;> simp[IntKind.max,IntKind.signed,IntKind.bits,IntKind.wrap]at d⊢ <;> omega
  simp only[execOp,hρ _ _ hx,hρ _ _ hy,eqGuard,binOp,Op.intDiv,ha,f];simp only[Sem.run_bind,Sem.run_pure,ne_eq,not_true_eq_false,↓reduceIte,h0,e];rfl
theorem mw (hx:evo t x=some (.int k i)) (hy:evo t y=some (.int k j)) (a b:Nat) (ha:i=a) (c:j=b) (hp:0<b):
 Ev G P ⟨dst,.binOp .rem T x y U,ty,pos,after,g⟩ t H (.int k ((a%b:Nat):Int)):=
 fun ρ hρ w _=>by
  have h0:¬((b:Int)=0):=a8;have e:(a:Int).tmod (b:Int)=((a%b:Nat):Int):=by
   rw[Int.tmod_eq_emod_of_nonneg a8];simp
  simp only[execOp,hρ _ _ hx,hρ _ _ hy,eqGuard,binOp,Op.intDiv,ha,c];simp only[Sem.run_bind,Sem.run_pure,ne_eq,not_true_eq_false,↓reduceIte,h0,e];rfl
theorem oh (hx:evo t x=some (.int k a)) (hy:evo t y=some (.int k b)):
 Ev G P ⟨dst,.call ⟨.builtin .min, #[x,y],ats⟩,ty,pos,after,g⟩ t H (.int k (min a b)):=
 fun ρ hρ w _=>by
  have e:(if b<a then b else a)=min a b:=by rw[Int.min_def];split <;> split <;> omega
  simp[execOp,resolve,invoke,builtin,Builtin.min_,Builtin.min2,hρ _ _ hx,hρ _ _ hy,e]
theorem nw (hx:evo t x=some (.int k a)) (hy:evo t y=some (.int k b)):
 Ev G P ⟨dst,.call ⟨.builtin .max, #[x,y],ats⟩,ty,pos,after,g⟩ t H (.int k (max a b)):=
 fun ρ hρ w _=>by
  have e:(if b > a then b else a)=max a b:=by rw[Int.max_def];split <;> split <;> omega
  simp[execOp,resolve,invoke,builtin,Builtin.max_,Builtin.max2,hρ _ _ hx,hρ _ _ hy,e]
end
end
section
variable {C:Array Value}{E T:TypeId}{b n o off s:Nat}{fz:Nat×Nat}{l l' vs:List Value}{o':Obj}{v z:Value}{w:World}{x:Operand}
theorem jT (b o n:Nat):(⟨b,o,none⟩:Addr).add n=⟨b,o+n,none⟩:=by
 unfold Addr.add;split <;> simp_all
theorem qh (h:w.heap[b]? =some (.cells C E fz)):w.cell? ⟨b,o,none⟩=C[o]? :=by
 simp[World.cell?,h]
theorem IB (h:w.heap[b]? =some (.cells C E fz)):w.frozen? ⟨b,o,none⟩=(decide (fz.1≤o)&&decide (o<fz.2)):=by
 simp[World.frozen?,h]
def fW (w:World) (b:Nat) (o:Obj):World:={w with heap:=w.heap.setIfInBounds b o}
theorem Er (h:w.heap[b]? =some (.cells C E fz)) (v:Value):
 w.setCell ⟨b,o,none⟩ v=fW w b (.cells (C.setIfInBounds o v) E fz):=by
 unfold World.setCell fW;congr 1;obtain⟨a,c⟩:=Vc.1 h;apply Q5;intro i;rw[T5,X8]
 by_cases e:b=i
 ·subst e;simp[a,c]
 ·simp[e]
theorem iY {o:Obj}(h:w.heap[b]? =some o):(fW w b o').heap[b]? =some o':=by
 have a:=(Vc.1 h).1;simp[fW,a]
theorem gY {i:Nat}(h:i≠b):(fW w b o').heap[i]? =w.heap[i]? :=by
 simp[fW,Ne.symm h]
theorem yM (w:World) (b:Nat) (o o':Obj):fW (fW w b o) b o'=fW w b o':=by
 simp[fW]
theorem Ci {o:Obj}(h:w.heap[b]? =some o):fW w b o=w:=by
 have:w.heap.setIfInBounds b o=w.heap:=by
  apply Q5;intro i;rw[X8];obtain⟨a,c⟩:=Vc.1 h
  by_cases e:b=i
  ·subst e;simp[a,c]
  ·simp[e]
 unfold fW;rw[this]
def gL (C:Array Value) (o:Nat):List Value→Array Value
 | []=>C
 |v::vs=>gL (C.setIfInBounds o v) (o+1) vs
theorem iA (vs:List Value):∀(C:Array Value) (o:Nat),(gL C o vs).size=C.size:=by
 induction vs with
 |nil=>intro C o;rfl
 |cons v vs ih=>intro C o;simp[gL,ih]
theorem jc (vs:List Value):∀(C:Array Value) (o j:Nat),o+vs.length≤C.size→(gL C o vs)[j]? =if o≤j∧j<o+vs.length then vs[j-o]? else C[j]? :=by
 induction vs with
 |nil=>intro C o j _;simp[gL];omega
 |cons v vs ih=>
  intro C o j h;simp only[Yb]at h;simp only[gL,Yb];rw[ih _ _ _ aQ]
  by_cases h1:j=o
  ·subst h1;rw[if_neg a8,if_pos a8];simp[show j<C.size from a8]
  ·by_cases h2:o+1≤j∧j<o+1+vs.length
   ·rw[if_pos h2,if_pos a8];rw[show j-o=(j-(o+1))+1 from a8,Xc]
   ·rw[if_neg h2,if_neg a8];simp[Ne.symm h1]
theorem tO (C:Array Value) (o:Nat) (vs:List Value) (h:o+vs.length≤C.size):(gL C o vs).toList=C.toList.take o++vs++C.toList.drop (o+vs.length):=by
 apply Vz;intro j;rw[R5,jc _ _ _ _ h];have hl:C.toList.length=C.size:=aq
 by_cases h1:j<o
 ·rw[if_neg a8,Yf,Yv aQ,Vp h1];simp
 ·by_cases h2:j<o+vs.length
  ·rw[if_pos a8,Yf,Yu aQ,Yv aQ];congr 1;simp;omega
  ·rw[if_neg a8,Yu aQ,Xh];simp only[Ya,Yg,R5,hl];congr 1;omega
theorem iy {P:Program}:∀(vs:List Value) (i:Nat) (C:Array Value) (w:World),w.heap[b]? =some (.cells C E fz)→
 (∀j,o+i≤j→j<o+i+vs.length→¬(fz.1≤j∧j<fz.2))→o+i+vs.length≤C.size→(∀v∈vs,v.oneCell'=true)→
 (storeCells ⟨b,o,none⟩ vs i).run P w=.ok () (fW w b (.cells (gL C (o+i) vs) E fz)):=by
 intro vs
 induction vs with
 |nil=>
  intro i C w d _ _ _;simp[storeCells,gL,Ci d]
 |cons v vs ih=>
  intro i C w d c e a;simp only[Yb]at c e;have h1:w.cell? ⟨b,o+i,none⟩=some (C[o+i]'(a8)):=by
   rw[qh d];simp[show o+i<C.size from a8]
  have h2:w.frozen? ⟨b,o+i,none⟩=false:=by
   rw[IB d];have:=c (o+i) a8 a8
   simpa using this
  simp only[storeCells,Sem.run_bind,jT,run_store P w _ v _ (a v aq),h1,h2];simp only[Xx,↓reduceIte,Result.andThen_ok];rw[Er d,ih (i+1) _ _ (iY d) (λj h3 h4=>c j a8 a8) aQ (λu f=>a u (Xa _ f)),yM];rfl
theorem fT {P:Program}(a:w.heap[b]? =some (.cells C E fz)) (cs:List Value) (h:∀j v,cs[j]? =some v→C[o+j]? =some v):
 (loadCells ⟨b,o,none⟩ cs.length).run P w=.ok cs.toArray w:=by
 exact run_loadCells_list w _ cs (λj v hv=>by rw[jT,qh a];exact h j v hv)
class Cut (l:List Value) (off n:Nat) (cs:outParam (List Value)):Prop where
 out:∀j v,cs[j]? =some v→l[off+j]? =some v
 len:cs.length=n
instance Cut.skip {x:Value}{l:List Value}{off n:Nat}{cs:List Value} [h:Cut l off n cs]:Cut (x::l) (off+1) n cs:=
 ⟨λj v hv=>by rw[show off+1+j=(off+j)+1 from a8,Xc];exact h.out j v hv,h.len⟩
instance Cut.take {x:Value}{l:List Value}{n:Nat}{cs:List Value} [h:Cut l 0 n cs]:Cut (x::l) 0 (n+1) (x::cs):=
 ⟨λj v hv=>by
  cases j with
  |zero=>simpa using hv
  |succ j=>rw[show 0+(j+1)=(0+j)+1 from a8,Xc];exact h.out j v (by simpa using hv),by simp[h.len]⟩
instance Cut.nil {l:List Value}:Cut l 0 0 []:=⟨λj v hv=>by simp at hv,rfl⟩
class Spl (l:List Value) (off:Nat) (vs:List Value) (l':outParam (List Value)):Prop where
 fit:off+vs.length≤l.length
 out:∀C:Array Value,C.toList=l→(gL C off vs).toList=l'
theorem Spl.eq [h:Spl l off vs l']:l'=l.take off++vs++l.drop (off+vs.length):=by
 have h1:=h.fit;rw[←h.out l.toArray aq,tO _ _ _ dt]
theorem rW (h:off+vs.length≤l.length) (he:l'=l.take off++vs++l.drop (off+vs.length)):Spl l off vs l':=
 ⟨h,λC a=>by rw[tO _ _ _ (by subst a;simpa using h),a,he]⟩
instance Spl.skip {x:Value}{l:List Value}{off:Nat}{vs l':List Value} [h:Spl l off vs l']:Spl (x::l) (off+1) vs (x::l'):=
 rW (by have:=h.fit;simp;omega) (by rw[h.eq];simp[show off+1+vs.length=(off+vs.length)+1 from a8])
instance Spl.here {x v:Value}{l:List Value}{vs l':List Value} [h:Spl l 0 vs l']:Spl (x::l) 0 (v::vs) (v::l'):=
 rW (by have:=h.fit;simp;omega) (by rw[h.eq];simp)
instance Spl.nil {l:List Value}:Spl l 0 [] l:=rW (aq) (aq)
class qv (v:Value) (l:outParam (List Value)):Prop where
 out:v.cells=l.toArray
 one:∀u∈l,u.oneCell'=true
class uF (v:Value):Prop where
 out:v.oneCell'=true
instance {b:Bool}:uF (.bool b):=⟨rfl⟩
instance {k:IntKind}{n:Int}:uF (.int k n):=⟨rfl⟩
instance {s:ByteArray}:uF (.string s):=⟨rfl⟩
instance {a:Option Addr}:uF (.pointer a):=⟨rfl⟩
instance {a:Option Addr}{n c:Nat}:uF (.slice a n c):=⟨rfl⟩
instance {r:Option Nat}:uF (.map r):=⟨rfl⟩
instance {f:Fn}{x y:Array Value}:uF (.func f x y):=⟨rfl⟩
instance:uF .nilFunc:=⟨rfl⟩
instance:uF .nilIface:=⟨rfl⟩
class BD (l:List Value):Prop where
 out:∀u∈l,u.oneCell'=true
instance:BD []:=⟨λ_ h=>bx⟩
instance {v:Value}{l:List Value} [h:uF v] [h2:BD l]:BD (v::l):=⟨λu hu=>by
 rcases Xo.1 hu with rfl|hu
 ·exact h.out
 ·exact h2.out u hu⟩
instance (priority:=low) qv.single {v:Value} [h:uF v]:qv v [v]:=⟨by
 have:=h.out
 cases v <;> simp_all [Value.oneCell',Value.cells],λu hu=>by simp at hu;subst hu;exact h.out⟩
instance qv.agg {l:List Value} [h:BD l]:qv (.agg l.toArray) l:=⟨rfl,h.out⟩
class BE (a b:Nat) (c:outParam Nat):Prop where
 out:a+b=c
instance BE.zero {a:Nat}:BE a 0 a:=⟨rfl⟩
instance BE.succ {a n c:Nat} [h:BE a n c]:BE a (n+1) (c+1):=⟨by have:=h.out;omega⟩
def Vr (b:Nat) (l:List Value):Hp:=λL=>∃E,L= [(b,.cells l.toArray E (0,0))]
class dQ (H:dD) (b:Nat) (l:outParam (List Value)):Prop where
 mem:∀L,Sep H L→∃E fz,(b,Obj.cells l.toArray E fz)∈L
instance dQ.tail {A:Hp}{H:dD}{b:Nat}{l:List Value} [h:dQ H b l]:dQ (A::H) b l:=
 ⟨λL hL=>by obtain⟨L1,L2,rfl,_,h2⟩:=hL;obtain⟨E,fz,hm⟩:=h.mem _ h2;exact⟨E,fz,Yx _ hm⟩⟩
instance dQ.head {H:dD}{b:Nat}{l:List Value}:dQ (Vr b l::H) b l:=
 ⟨λL hL=>by obtain⟨L1,L2,rfl,⟨E,rfl⟩,_⟩:=hL;exact⟨E,(0,0),aq⟩⟩
theorem dQ.get {G:dJ}{H:dD}(h:dQ H b l) (hs:Sat G w H):∃E fz,w.heap[b]? =some (.cells l.toArray E fz):=by
 obtain⟨_,L,hL,hl⟩:=hs;obtain⟨E,fz,hm⟩:=h.mem L hL;exact⟨E,fz,hl.at_ _ hm⟩
theorem Mh {G:dJ}{H:dD}{C:Hp→dD}(h:Foc H Vr b l C) (hs:Sat G w H):∃E,w.heap[b]? =some (.cells l.toArray E (0,0))∧Sat G w (C (Pt b (.cells l.toArray E (0,0)))):=by
 obtain⟨a,L,hL,hl⟩:=hs;obtain⟨L1,M,L2,rfl,⟨E,rfl⟩,c⟩:=h.foc _ hL;exact⟨E,hl.at_ (b,.cells l.toArray E (0,0)) aq,a,_,c (Pt b _) _ rfl,hl⟩
theorem N6 {G:dJ}{w':World}{H:dD}{C:Hp→dD}(h:Foc H Vr b l C) (hs:Sat G w H){o:Obj}{B:Hp}(e:∀M,M= [(b,o)]→B M) (c:FI G w') (a:w'.heap[b]? =some o) (hk:∀i,i≠b→i<w.heap.size→w'.heap[i]? =w.heap[i]?):Sat G w' (C B):=by
 obtain⟨_,L,hL,hl⟩:=hs;obtain⟨L1,M,L2,rfl,⟨f,rfl⟩,d⟩:=h.foc _ hL;have h1:=hl.at_ (b,.cells l.toArray f (0,0)) aq;exact⟨c,_,d B [(b,o)] (e _ rfl),lB.change bQ a hk⟩
section
variable {G:dJ}{P:Program}{t:Tm}{H:dD}{dst:Option Tmp}{ty:TypeId}{pos:String}{after:Array Edge}{g:Option (Nat×Bool)}
theorem iZ [h:One P T] (w:World):(isAgg T).run P w=.ok false w:=by
 obtain⟨d,hd,hm⟩:=h.out;cases d <;> simp_all [isAgg,underlying]
theorem uQ [h:Agg P T n] (w:World):(isAgg T).run P w=.ok true w:=by
 obtain⟨d,i,hd,hm,_⟩:=h.out;cases d <;> simp_all [isAgg,underlying]
theorem na [h:Agg P T n] (w:World):(sizeOf T).run P w=.ok n w:=by
 obtain⟨d,i,_,_,hi,hn⟩:=h.out;simp[sizeOf,typeInfo,hi,hn]
theorem fy [h:Inf P T s b z] (w:World):(sizeOf T).run P w=.ok s w:=by
 obtain⟨i,hi,hn,_,_⟩:=h.out;simp[sizeOf,typeInfo,hi,hn]
theorem mb [h:Inf P T s b z] (w:World):(zeroValue T).run P w=.ok z w:=by
 obtain⟨i,hi,_,_,a⟩:=h.out;simp[zeroValue,typeInfo,hi,a]
theorem PN (hx:evo t x=some (.pointer (some ⟨b,off,none⟩))) [hT:One P T] [hH:dQ H b l] [hc:Cut l off 1 [v]]:
 Ev G P ⟨dst,.load T x,ty,pos,after,g⟩ t H v:=
 fun ρ hρ w hw=>by
  obtain⟨E,fz,a⟩:=hH.get hw;have h1:w.cell? ⟨b,off,none⟩=some v:=by rw[qh a];simpa using hc.out 0 v rfl
  simp[execOp,hρ _ _ hx,Instr.loadAt,Instr.sureAddr,loadVar,iZ,h1]
theorem Mr {cs:List Value}(hx:evo t x=some (.pointer (some ⟨b,off,none⟩))) [hT:Agg P T n] [hH:dQ H b l] [hc:Cut l off n cs]:
 Ev G P ⟨dst,.load T x,ty,pos,after,g⟩ t H (.agg cs.toArray):=
 fun ρ hρ w hw=>by
  obtain⟨E,fz,a⟩:=hH.get hw;have h1:=fT (P:=P) (o:=off) a cs (λj v hv=>by simpa using hc.out j v hv);rw[hc.len]at h1;simp[execOp,hρ _ _ hx,Instr.loadAt,Instr.sureAddr,loadVar,uQ,na (n:=n),h1]
theorem ej {y:Operand}{e:Nat}{cs:List Value}{C:Hp→dD}(hx:evo t x=some (.pointer (some ⟨b,off,none⟩))) (hy:evo t y=some v) [hT:Inf P T s e z] [hv:qv v cs] [hf:Foc H Vr b l C] [hl:Spl l off cs l'] (hs:cs.length=s):
 St G P ⟨dst,.store T x y,ty,pos,after,g⟩ t H (λu f=>u=undef∧f=C (Vr b l')):=
 fun ρ hρ w hw=>by
  obtain⟨E,c,_⟩:=Mh hf hw;have a:=hl.fit;have h1:=iy (P:=P) (o:=off) cs 0 l.toArray w c (λj _ _=>aq) (by simpa using a) hv.one;have hn:v.cells.size=s:=by rw[hv.out];simpa using hs
  have hr:(execOp ρ ⟨dst,.store T x y,ty,pos,after,g⟩).run P w=.ok .skip (fW w b (.cells (gL l.toArray off cs) E (0,0))):=by
   simp only[execOp,hρ _ _ hx,hρ _ _ hy,Instr.storeAt,Instr.sureAddr,storeVar,Sem.run_bind,Sem.run_pure,Result.andThen_ok,fy (T:=T),hn];simp only[ne_eq,not_true_eq_false,↓reduceIte];rw[hv.out];simp only[X6]at h1⊢;rw[h1];rfl
  rw[hr];refine⟨_,?_,rfl,rfl⟩;refine N6 hf hw (o:=.cells (gL l.toArray off cs) E (0,0)) (λM d=>⟨E,?_⟩) ⟨hw.1.os,hw.1.tape,hw.1.output⟩ (iY c) (λi hi _=>gY hi);rw[d,←hl.out l.toArray aq]
theorem Bf {k o':Nat}(hx:evo t x=some (.pointer (some ⟨b,o,none⟩))) [hf:Fld P T k off] [ha:BE o off o']:
 Ev G P ⟨dst,.fieldAddr T x k,ty,pos,after,g⟩ t H (.pointer (some ⟨b,o',none⟩)):=
 fun ρ hρ w _=>by
  obtain⟨fs,f,i,h1,h2,h3,h4,h5⟩:=hf.out;rw[←ha.out];simp[execOp,hρ _ _ hx,Instr.fieldAt,underlying,h1,h2,Instr.sureAddr,fieldPlace,sizeOf,typeInfo,h4,h5,h3,jT]
theorem x9 (hx:evo t x=some v) [hv:qv v l]:
 St G P ⟨dst,.box T x,ty,pos,after,g⟩ t H (λu c=>∃b,u=.pointer (some ⟨b,0,none⟩)∧c=Vr b l::H):=
 fun ρ hρ w hw=>by
  have hr:(execOp ρ ⟨dst,.box T x,ty,pos,after,g⟩).run P w=.ok (.value (.pointer (some ⟨w.heap.size,0,none⟩))) {w with heap:=w.heap.push (.cells l.toArray T)}:=by
   simp[execOp,hρ _ _ hx,Instr.box,newVar,newRow,hv.out]
  rw[hr];exact⟨_,(hw.alloc _).cons (λM a=>⟨T,a⟩),w.heap.size,rfl,rfl⟩
theorem m9 {c:Nat} [hT:Inf P T s c z] [hv:qv z l]:
 St G P ⟨dst,.alloc T,ty,pos,after,g⟩ t H (λu d=>∃b,u=.pointer (some ⟨b,0,none⟩)∧d=Vr b l::H):=
 fun ρ hρ w hw=>by
  have hr:(execOp ρ ⟨dst,.alloc T,ty,pos,after,g⟩).run P w=.ok (.value (.pointer (some ⟨w.heap.size,0,none⟩))) {w with heap:=w.heap.push (.cells l.toArray T)}:=by
   simp[execOp,Instr.alloc,mb (T:=T),newVar,newRow,hv.out]
  rw[hr];exact⟨_,(hw.alloc _).cons (λM a=>⟨T,a⟩),w.heap.size,rfl,rfl⟩
end
end
end Go.Sx
