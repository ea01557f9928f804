import Derived.KernelRfl
import Derived.Calls
import Derived.Tactics
import Derived.Orders
import Derived.Still
set_option linter.unusedVariables false
set_option linter.unusedSimpArgs false
set_option linter.unusedSectionVars false
set_option linter.unnecessarySimpa false
set_option maxHeartbeats 0
namespace Go.Sx
open Go
theorem Za {p : Prop} [Decidable p] : (decide p = true) = p := decide_eq_true_eq
theorem Zb {p : Prop} [Decidable p] : decide p = false ↔ ¬p := decide_eq_false_iff_not
theorem Zc (b : Bool) : ((!b) = true) = (b = false) := Bool.not_eq_true' b
theorem Zd (b : Bool) : ((!b) = false) = (b = true) := Bool.not_eq_false' b
theorem Ze (a b : Bool) : ((a && b) = true) = (a = true ∧ b = true) := Bool.and_eq_true a b
theorem Zf (a b : Bool) : ((a || b) = true) = (a = true ∨ b = true) := Bool.or_eq_true a b
theorem Zg {α : Type} (a b : α) : (a ≠ b) = ¬(a = b) := ne_eq a b
theorem Zh {p : Prop} [Decidable p] : ¬¬p ↔ p := Decidable.not_not
theorem Ya {α : Type} {a b : List α} : (a ++ b).length = a.length + b.length := List.length_append
theorem Yb {α : Type} {a : α} {l : List α} : (a :: l).length = l.length + 1 := rfl
theorem Yc {α : Type} : ([] : List α).length = 0 := rfl
theorem Yd {α : Type} {a : α} {l m : List α} : (a :: l) ++ m = a :: (l ++ m) := rfl
theorem Ye {α : Type} (l : List α) : [] ++ l = l := rfl
theorem Yf {α : Type} (a b c : List α) : a ++ b ++ c = a ++ (b ++ c) := List.append_assoc a b c
theorem Yg {α : Type} {n : Nat} {l : List α} : (l.take n).length = min n l.length := List.length_take
theorem Yh {α β : Type} {l : List α} (f : α → β) : (l.map f).length = l.length := List.length_map f
theorem Yi {α : Type} {l : List α} {i : Nat} (h : i < l.length) : l[i]? = some l[i] := List.getElem?_eq_getElem h
theorem Yj {α : Type} {l : List α} {i : Nat} {a : α} (h : l[i]? = some a) : a ∈ l := List.mem_of_getElem? h
theorem Yk {α : Type} {l : List α} {i : Nat} {a : α} : l[i]? = some a ↔ ∃ h : i < l.length, l[i] = a := List.getElem?_eq_some_iff
theorem Yl (n : Nat) : 0 ≤ n := Nat.zero_le n
theorem Ym {α : Type} (l : List α) : l ++ [] = l := List.append_nil l
theorem Yo {α : Type} {i : Nat} {l : List α} : (l.drop i).length = l.length - i := List.length_drop
theorem Yp {α : Type} {n : Nat} {l : List α} {a : α} (h : a ∈ l.drop n) : a ∈ l := List.mem_of_mem_drop h
theorem Yq {α : Type} {n : Nat} {l : List α} {a : α} (h : a ∈ l.take n) : a ∈ l := List.mem_of_mem_take h
theorem Yr {p : Prop} [Decidable p] (h : ¬p) : decide p = false := decide_eq_false h
theorem Ys {p : Prop} [Decidable p] (h : p) : decide p = true := decide_eq_true h
theorem Yt {p : Prop} [Decidable p] (h : decide p = true) : p := of_decide_eq_true h
theorem Yu {α : Type} {a b : List α} {i : Nat} (h : a.length ≤ i) : (a ++ b)[i]? = b[i - a.length]? := List.getElem?_append_right h
theorem Yv {α : Type} {a b : List α} {i : Nat} (h : i < a.length) : (a ++ b)[i]? = a[i]? := List.getElem?_append_left h
theorem Yx {α : Type} {a : α} (l : List α) {m : List α} (h : a ∈ m) : a ∈ l ++ m := List.mem_append_right l h
theorem Yy {α : Type} {a : α} {l : List α} (m : List α) (h : a ∈ l) : a ∈ l ++ m := List.mem_append_left m h
theorem Yz {α : Type} {a : α} {l : List α} : a ∈ a :: l := List.mem_cons_self
theorem Xa {α : Type} (y : α) {a : α} {l : List α} (h : a ∈ l) : a ∈ y :: l := List.mem_cons_of_mem y h
theorem Xb {α : Type} {a : α} {l : List α} : (a :: l)[0]? = some a := rfl
theorem Xc {α : Type} {a : α} {l : List α} {i : Nat} : (a :: l)[i + 1]? = l[i]? := rfl
theorem Xd {α β : Type} {f : α → β} {l : List α} {i : Nat} : (l.map f)[i]? = l[i]?.map f := List.getElem?_map
theorem Xe {α : Type} {n : Nat} {a : α} : (List.replicate n a).length = n := List.length_replicate
theorem Xh {α : Type} {l : List α} {i j : Nat} : (l.drop i)[j]? = l[i + j]? := List.getElem?_drop
theorem Xi {a b c : Nat} (h : a ≤ b) (k : b ≤ c) : a ≤ c := Nat.le_trans h k
theorem BL {a b : Nat} (h : Nat.ble a b = true := by rfl) : a ≤ b := Nat.le_of_ble_eq_true h
theorem a8 {p : Prop} (h : p := by kernel_rfl) : p := h
theorem aa {p : Prop} (h : p := by omega) : p := h
theorem ab {p : Prop} (h : p := by subst hi; infer_instance) : p := h
theorem ad {p : Prop} (h : p := by subst hi; exact cH (by kernel_rfl)) : p := h
theorem ae {p : Prop} (h : p := by first | exact cU 18446744073709551616 rfl rfl rfl _ rfl (by omega) | exact dj 18446744073709551616 rfl rfl rfl _ rfl) : p := h
theorem af {p : Prop} (h : p := by first | omega | (simp only [Ya, Yb, Yc]; omega) | (simp; omega)) : p := h
theorem ag {p : Prop} (h : p := by decide) : p := h
theorem ah {p : Prop} (h : p := by subst hi; first | infer_instance | exact ⟨inferInstance, inferInstance, inferInstance⟩ | exact ⟨inferInstance, inferInstance⟩) : p := h
theorem ai {p : Prop} (h : p := by simp only [Ya]; omega) : p := h
theorem aj {p : Prop} (h : p := by first | decide | omega) : p := h
theorem ak {p : Prop} (h : p := by have hN := hH.1 rfl; exact ldv) : p := h
theorem an {p : Prop} (h : p := by simp) : p := h
theorem ao {p : Prop} (h : p := by rw [hI, show kL i c = false from Yr (by omega)]; rfl) : p := h
theorem aq {p : Prop} (h : p := by show _ ≤ (9223372036854775807 : Int); omega) : p := h
theorem ar {p : Prop} (h : p := by have hN := hH.2.1 rfl; exact ldv) : p := h
theorem au {p : Prop} (h : p := by first | exact jY 18446744073709551616 rfl rfl rfl rfl _ _ rfl rfl (by omega) | exact mS 18446744073709551616 rfl rfl rfl rfl _ _ rfl rfl) : p := h
theorem aw {p : Prop} (h : p := by first | exact cU 4294967296 rfl rfl rfl _ rfl (by omega) | exact dj 4294967296 rfl rfl rfl _ rfl) : p := h
theorem ax {p : Prop} (h : p := by subst hi; first | infer_instance | exact ⟨inferInstance, inferInstance⟩) : p := h
theorem ay {p : Prop} (h : p := by decide +kernel) : p := h
theorem az {p : Prop} (h : p := by have h9 := h1; omega) : p := h
theorem aA {p : Prop} (h : p := by rw [Yg]; omega) : p := h
theorem aB {p : Prop} (h : p := by (subst_vars; rfl)) : p := h
theorem aC {p : Prop} (h : p := by unfold fE; rw [if_neg (by omega), if_pos (by omega)]; simp_all [gF]) : p := h
theorem aD {p : Prop} (h : p := by simp only [Op.equalIn, Sem.run_bind, da (T := T), Result.andThen_ok, Sem.run_pure]) : p := h
theorem aE {p : Prop} (h : p := by have hN := hH.2 rfl; exact ldv) : p := h
theorem aF {p : Prop} (h : p := by have hN := hH.2.2.1 rfl; exact ldv) : p := h
theorem aG {p : Prop} (h : p := by simp at h) : p := h
theorem aH {p : Prop} (h : p := by assumption) : p := h
theorem aI {p : Prop} (h : p := by first | decide | (show _ ≤ 64; omega)) : p := h
theorem aJ {p : Prop} (h : p := by simp only [iW] at he; split at he; assumption; cases he) : p := h
theorem aK {p : Prop} (h : p := by rw [Yo]; omega) : p := h
theorem aL {p : Prop} (h : p := by simp only [iW] at he; split at he; omega; cases he) : p := h
theorem aM {p : Prop} (h : p := by simp; omega) : p := h
theorem aN {p : Prop} (h : p := by first | rfl | omega) : p := h
theorem aO {p : Prop} (h : p := by have h9 := h2; simpa using h9) : p := h
theorem aP {p : Prop} (h : p := by first | omega | (simp; omega)) : p := h
theorem aQ {p : Prop} (h : p := by have h9 := h2; omega) : p := h
theorem aR {p : Prop} (h : p := by first | exact cU 256 rfl rfl rfl _ rfl (by omega) | exact dj 256 rfl rfl rfl _ rfl) : p := h
theorem aS {p : Prop} (h : p := by simp [execOp, hρ _ _ hx, hρ _ _ hy, eqGuard, binOp, Op.intCmp]) : p := h
theorem aT {p : Prop} (h : p := by rw [Ya]; omega) : p := h
theorem aU {p : Prop} (h : p := by have := kD (fun p hp => (hsm.2 p hp).1) x hx; omega) : p := h
theorem aV {p : Prop} (h : p := by have hN := hH.2.2.1 rfl; exact ixa) : p := h
theorem aW {p : Prop} (h : p := by cases h) : p := h
theorem aX {p : Prop} (h : p := by rw [hI, ju, hor, Nat.mod_eq_of_lt (by omega)]; rfl) : p := h
theorem aY {p : Prop} (h : p := by simpa using h) : p := h
theorem aZ {p : Prop} (h : p := by have hN := hH.2.2 rfl; exact ldv) : p := h
theorem ba {p : Prop} (h : p := by simp at h; subst h; rfl) : p := h
theorem bf {p : Prop} (h : p := by rw [Nat.add_mul]; omega) : p := h
theorem bg {p : Prop} (h : p := by simp only; omega) : p := h
theorem bj {p : Prop} (h : p := by simp [execOp, hρ _ _ hx, hρ _ _ hy, eqGuard, binOp, Op.intArith, iq h]) : p := h
theorem bm {p : Prop} (h : p := by unfold gx; rw [Yr (by omega)]; rfl) : p := h
theorem bn {p : Prop} (h : p := by have hN := hH.1 rfl; exact fla) : p := h
theorem bt {p : Prop} (h : p := by rw [e.len]; omega) : p := h
theorem bu {p : Prop} (h : p := by unfold fI; rw [Yr (by omega)]; rfl) : p := h
theorem bx {p : Prop} (h : p := by simpa using hl) : p := h
theorem bz {p : Prop} (h : p := by simp only [Yf]; exact (h6.append_left L3).append_left L1) : p := h
theorem bA {p : Prop} (h : p := by have hN := hH rfl; exact ldv) : p := h
theorem bB {p : Prop} (h : p := by rw [Yo, Yg]; omega) : p := h
theorem bC {p : Prop} (h : p := by obtain ⟨d, hd, rfl⟩ := List.mem_map.1 hx; have := h.ids d hd; omega) : p := h
theorem bD {p : Prop} (h : p := by rw [hT, hth]; rfl) : p := h
theorem bE {p : Prop} (h : p := by rw [hX, Yh]; omega) : p := h
theorem bF {p : Prop} (h : p := by have hN := hH rfl; exact evq ldv (congrArg (Value.int .i64) hpl)) : p := h
theorem bG {p : Prop} (h : p := by rw [e.all_length, Yg, Nat.min_eq_left (by omega)]) : p := h
theorem bH {p : Prop} (h : p := by have hN := hH.1 rfl; exact lds) : p := h
theorem bI {p : Prop} (h : p := by rw [eH, he]; simp only [List.drop_drop]; rw [hI]; rfl) : p := h
theorem bJ {p : Prop} (h : p := by cases b with | true => exact h1 rfl | false => exact h2 rfl) : p := h
theorem bK {p : Prop} (h : p := by have := qg (fun p hp => (hsm.2 p hp).2.1) x hx; omega) : p := h
theorem bL {p : Prop} (h : p := by have h9 := h1; simpa using h9) : p := h
theorem bM {p : Prop} (h : p := by rw [hpc, ← hzp]; exact cJ.trans (hsb) (cJ.keep (m6 (x := ⟨lp, im, sk, rd2, zs2, blk2⟩) ⟨hpo2, hn, hbk2⟩))) : p := h
theorem bN {p : Prop} (h : p := by rw [h0] at hr; cases hr) : p := h
theorem bO {p : Prop} (h : p := by obtain ⟨L1, L2, rfl, _, h2⟩ := hL; obtain ⟨E, fz, hm⟩ := h.out L2 h2; exact ⟨E, fz, Yx _ hm⟩) : p := h
theorem bP {p : Prop} (h : p := by have h8 := congrArg List.length hzs; rw [Yh, Yg] at h8; rw [Yh]; omega) : p := h
theorem bQ {p : Prop} (h : p := by rfl) : p := h
theorem bR {p : Prop} (h : p := by rw [List.map_toArray, kF hρ hx]) : p := h
theorem bS {p : Prop} (h : p := by first | decide | (show _ ≤ 32; omega)) : p := h
theorem bT {p : Prop} (h : p := by unfold fE; rw [if_neg (by omega), if_neg (by omega)]) : p := h
theorem bU {p : Prop} (h : p := by have := congrArg List.length hk.keys; simpa using this) : p := h
theorem bV {p : Prop} (h : p := by have hN := hH.2.2.2.1 rfl; exact ixa) : p := h
theorem bW {p : Prop} (h : p := by rw [Yh]; omega) : p := h
theorem bX {p : Prop} (h : p := by rw [hx4]; simp only [ne_eq, Option.some.injEq]; omega) : p := h
theorem bY {p : Prop} (h : p := by rw [Ya, List.length_singleton]; omega) : p := h
theorem bZ {p : Prop} (h : p := by rw [fN]; omega) : p := h
theorem cc {p : Prop} (h : p := by rw [mj (by omega) (by omega) hkj hend]; rfl) : p := h
theorem cf {p : Prop} (h : p := by have hN := hH.2.2.1 rfl; exact lnn) : p := h
theorem cg {p : Prop} (h : p := by simp [Region.wanted]) : p := h
theorem cj {p : Prop} (h : p := by have h9 := h3; omega) : p := h
theorem ck {p : Prop} (h : p := by rw [had]; exact cJ.trans (hsb) (m6 (c := c) (x := ⟨lp, im, sk, rd, zs, blk⟩) ⟨hc, hn, hbk⟩)) : p := h
theorem cm {p : Prop} (h : p := by first | exact rfl | exact jb (by simp_all [lsC])) : p := h
theorem cp {p : Prop} (h : p := by unfold dk; omega) : p := h
theorem cq {p : Prop} (h : p := by unfold eQ; omega) : p := h
theorem cr {p : Prop} (h : p := by rw [IntKind.wrap_i64, IntKind.wrap_i64]; omega) : p := h
theorem cv {p : Prop} (h : p := by have := e.small; omega) : p := h
theorem cw {p : Prop} (h : p := by have hN := hH rfl; exact lds) : p := h
theorem cx {p : Prop} (h : p := by rw [lD (o := ⟨dst, op, ty, pos, after, some (k, want)⟩) ha rfl hk hv]; simp) : p := h
theorem cy {p : Prop} (h : p := by rw [lD (o := ⟨dst, op, ty, pos, after, some (j, want)⟩) ha rfl hj hv]; simp) : p := h
theorem cz {p : Prop} (h : p := by obtain ⟨h1, h2⟩ := h; obtain ⟨n, b, h3, h4⟩ := FZ h1; exact ⟨n, b, h3, h4, h2⟩) : p := h
theorem cA {p : Prop} (h : p := by rw [hI, hk]; simp) : p := h
theorem cB {p : Prop} (h : p := by have := (hk2 d hd).1; omega) : p := h
theorem cC {p : Prop} (h : p := by rw [Yg, fb]; omega) : p := h
structure cK where
 os:Os
 tape:Nat→Question→Nat
 output:Array (Nat×ByteArray)
 eT:TypeId
 eb:Nat→Nat
 eo:Nat→Nat
structure Bi (G:cK) (w:World):Prop where
 os:w.os=G.os
 tape:w.tape=G.tape
 output:w.output=G.output
abbrev nf:=List (Nat×Obj)
abbrev Hp:=nf→Prop
abbrev cG:=List Hp
def Sep:cG→nf→Prop
 | [],L=> L= []
 |A::H,L=> ∃L1 L2,L=L1++L2∧A L1∧Sep H L2
structure jc (w:World) (L:nf):Prop where
 nodup:(L.map (·.1)).Nodup
 at_:∀x∈L,w.heap[x.1]? =some x.2
def Sat (G:cK) (w:World) (H:cG):Prop:=Bi G w∧∃L,Sep H L∧jc w L
def Pt (b:Nat) (o:Obj):Hp:=fun L=> L= [(b,o)]
theorem Sat.same {G:cK}{w w':World}{H:cG}(h:Sat G w H) (hh:w'.heap=w.heap) (hs:Bi G w'):Sat G w' H:=by
 obtain⟨_,L,hL,hl⟩:=h
 exact⟨hs,L,hL,hl.nodup,by rw[hh];exact hl.at_⟩
theorem Sat.drop {G:cK}{w:World}{A:Hp}{H:cG}(h:Sat G w (A::H)):Sat G w H:=by
 obtain⟨hs,L,⟨L1,L2,rfl,_,hL2⟩,hl⟩:=h
 refine⟨hs,L2,hL2,?_,fun x hx=> hl.at_ x (Yx _ hx)⟩
 have:=hl.nodup
 rw[List.map_append]at this
 exact(List.nodup_append.1 this).2.1
theorem Sat.cons {G:cK}{w:World}{A B:Hp}{H:cG}(h:Sat G w (A::H)) (hab:∀L,A L→B L):Sat G w (B::H):=by
 obtain⟨hs,L,⟨L1,L2,rfl,h1,hL2⟩,hl⟩:=h
 exact⟨hs,_,⟨L1,L2,rfl,hab _ h1,hL2⟩,hl⟩
theorem Sat.imp {G:cK}{w:World}{H H':cG}(h:Sat G w H) (hab:∀L,Sep H L→∃L',Sep H' L'∧(L'.Sublist L∨L'.Perm L)):Sat G w H':=by
 obtain⟨hs,L,hL,hl⟩:=h
 obtain⟨L',hL',hp⟩:=hab L hL
 refine⟨hs,L',hL',?_,?_⟩
 ·rcases hp with hp|hp
  ·exact(hp.map _).nodup hl.nodup
  ·exact((hp.map _).nodup_iff).2 hl.nodup
 ·intro x hx
  rcases hp with hp|hp
  ·exact hl.at_ x (hp.subset hx)
  ·exact hl.at_ x (hp.mem_iff.1 hx)
theorem jc.lt {w:World}{L:nf}(h:jc w L) {x:Nat×Obj}(hx:x∈L):x.1<w.heap.size:=by
 have:=h.at_ x hx
 exact(Array.getElem?_eq_some_iff.1 this).1
theorem Sat.alloc {G:cK}{w:World}{H:cG}(h:Sat G w H) (o:Obj):Sat G {w with heap:=w.heap.push o} (Pt w.heap.size o::H):=by
 obtain⟨hs,L,hL,hl⟩:=h
 refine⟨⟨hs.os,hs.tape,hs.output⟩,(w.heap.size,o)::L,⟨[(w.heap.size,o)],L,rfl,rfl,hL⟩,?_,?_⟩
 ·rw[List.map_cons,List.nodup_cons]
  refine⟨fun hm=> ?_,hl.nodup⟩
  obtain⟨x,hx,he⟩:=List.mem_map.1 hm
  have:=hl.lt hx
  simp only at he
  omega
 ·intro x hx
  rcases List.mem_cons.1 hx with rfl|hx
  ·simp
  ·have:=hl.lt hx
   have h2:=hl.at_ x hx
   simp only[Array.getElem?_push]
   rw[if_neg (aa)]
   exact h2
theorem jc.change {w w':World}{L1 L2:nf}{b:Nat}{o o':Obj}(h:jc w (L1++(b,o)::L2)) (hb:w'.heap[b]? =some o')
 (hk:∀i,i≠b→i<w.heap.size→w'.heap[i]? =w.heap[i]?):jc w' (L1++(b,o')::L2):=by
 have hn:=h.nodup
 refine⟨by simpa using hn,fun x hx=> ?_⟩
 simp only[List.map_append,List.map_cons,List.nodup_append,List.nodup_cons]at hn
 obtain⟨hn1,⟨hn2,hn3⟩,hn4⟩:=hn
 rcases List.mem_append.1 hx with hx|hx
 ·have hm:x∈L1++(b,o)::L2:=Yy _ hx
  rw[hk x.1 (fun he=> hn4 x.1 (List.mem_map_of_mem hx) b (an) he) (h.lt hm)]
  exact h.at_ x hm
 ·rcases List.mem_cons.1 hx with rfl|hx
  ·exact hb
  ·have hm:x∈L1++(b,o)::L2:=Yx _ (Xa _ hx)
   rw[hk x.1 (fun he=> hn2 (he ▸ List.mem_map_of_mem hx)) (h.lt hm)]
   exact h.at_ x hm
class Has (H:cG) (b:Nat) (o:outParam Obj):Prop where
 mem:∀L,Sep H L→(b,o)∈L
instance Has.tail {A:Hp}{H:cG}{b:Nat}{o:Obj} [h:Has H b o]:Has (A::H) b o:=
 ⟨fun L hL=> by obtain⟨L1,L2,rfl,_,h2⟩:=hL;exact Yx _ (h.mem _ h2)⟩
instance Has.head {H:cG}{b:Nat}{o:Obj}:Has (Pt b o::H) b o:=
 ⟨fun L hL=> by obtain⟨L1,L2,rfl,h1,_⟩:=hL;rw[show L1= [(b,o)]from h1];simp⟩
theorem Has.get {G:cK}{w:World}{H:cG}{b:Nat}{o:Obj}(h:Has H b o) (hs:Sat G w H):w.heap[b]? =some o:=by
 obtain⟨_,L,hL,hl⟩:=hs
 exact hl.at_ _ (h.mem L hL)
class Foc (H:cG) {ι α:Type}(K:ι→α→Hp) (i:ι) (a:outParam α) (C:outParam (Hp→cG)):Prop where
 foc:∀L,Sep H L→∃L1 M L2,L=L1++(M++L2)∧K i a M∧∀(B:Hp) M',B M'→Sep (C B) (L1++(M'++L2))
instance Foc.tail {A:Hp}{H:cG}{ι α:Type}{K:ι→α→Hp}{i:ι}{a:α}{C:Hp→cG} [h:Foc H K i a C]:Foc (A::H) K i a (fun B=> A::C B):=
 ⟨fun L hL=> by
  obtain⟨N1,N2,rfl,hA,h2⟩:=hL
  obtain⟨L1,M,L2,rfl,hM,hB⟩:=h.foc _ h2
  refine⟨N1++L1,M,L2,an,hM,fun B M' hm=> ⟨N1,L1++(M'++L2),an,hA,hB B M' hm⟩⟩⟩
instance Foc.head {H:cG}{ι α:Type}{K:ι→α→Hp}{i:ι}{a:α}:Foc (K i a::H) K i a (fun B=> B::H):=
 ⟨fun L hL=> by
  obtain⟨L1,L2,rfl,h1,h2⟩:=hL
  exact⟨[],L1,L2,rfl,h1,fun B M' hm=> ⟨M',L2,rfl,hm,h2⟩⟩⟩
theorem Foc.sat {G:cK}{w:World}{H:cG}{ι α:Type}{K:ι→α→Hp}{i:ι}{a:α}{C:Hp→cG}(h:Foc H K i a C) (hs:Sat G w H) (B:Hp) (hab:∀M,K i a M→B M):Sat G w (C B):=by
 obtain⟨hS,L,hL,hl⟩:=hs
 obtain⟨L1,M,L2,rfl,hM,hB⟩:=h.foc _ hL
 exact⟨hS,_,hB B M (hab M hM),hl⟩
theorem Foc.get {G:cK}{w:World}{H:cG}{b:Nat}{o:Obj}{C:Hp→cG}(h:Foc H Pt b o C) (hs:Sat G w H):w.heap[b]? =some o:=by
 obtain⟨_,L,hL,hl⟩:=hs
 obtain⟨L1,M,L2,rfl,hM,_⟩:=h.foc _ hL
 have hM':M= [(b,o)]:=hM
 subst hM'
 exact hl.at_ (b,o) (an)
theorem Foc.change {G:cK}{w w':World}{H:cG}{b:Nat}{o o':Obj}{C:Hp→cG}(h:Foc H Pt b o C) (hs:Sat G w H) (hS:Bi G w') (hb:w'.heap[b]? =some o')
 (hk:∀i,i≠b→i<w.heap.size→w'.heap[i]? =w.heap[i]?):Sat G w' (C (Pt b o')):=by
 obtain⟨_,L,hL,hl⟩:=hs
 obtain⟨L1,M,L2,rfl,hM,hB⟩:=h.foc _ hL
 have hM':M= [(b,o)]:=hM
 subst hM'
 have:=hB (Pt b o') [(b,o')] rfl
 exact⟨hS,_,this,by simpa using jc.change (bx) hb hk⟩
abbrev Tm:=List (Nat×Value)
def look:Tm→Nat→Option Value
 | [],_=> none
 |(m,v)::t,n=> bif Nat.beq m n then some v else look t n
def evo (t:Tm):Operand→Option Value
 | .tmp n=> look t n
 | .const v=> some v
 | .global g=> some (.pointer (some ⟨g,0,none⟩))
 | .func f=> some (.func (.func f) #[] #[])
def qj (t:Tm):List Operand→Option (List Value)
 | []=> some []
 |x::xs=> match evo t x,qj t xs with
  |some v,some vs=> some (v::vs)
  |_,_=> none
structure Fr (N:Nat) (t:Tm) (a:Act):Prop where
 size:a.tmps.size=N
 defers:a.defers= []
 look:∀n v,look t n=some v→a.tmps[n]? =some v
def zO (t:Tm) (ρ:Operand→Value):Prop:=∀x v,evo t x=some v→ρ x=v
theorem Fr.agree {N:Nat}{t:Tm}{a:Act}(h:Fr N t a):zO t a.eval:=by
 intro x v hx
 cases x with
 |tmp n=> simp only[Act.eval,Array.getD_eq_getD_getElem?,h.look n v hx,Option.getD_some]
 |const u=> exact Option.some.inj hx
 |global g=> exact Option.some.inj hx
 |func f=> exact Option.some.inj hx
def put (t:Tm):Option Tmp→Value→Tm
 |none,_=> t
 |some d,v=> (d,v)::t
def fH (N:Nat):Option Tmp→Bool
 |none=> true
 |some d=> Nat.blt d N
theorem Fr.put {N:Nat}{t:Tm}{a:Act}{d:Option Tmp}(h:Fr N t a) (hd:fH N d=true) (v:Value):Fr N (put t d v) (a.put d v):=by
 cases d with
 |none=> exact h
 |some d=>
  have hdN:d<N:=by simpa [fH] using hd
  refine⟨by simp[Act.put,h.size],h.defers,fun n u hn=> ?_⟩
  simp only[Sx.put,Sx.look]at hn
  simp only[Act.put,Array.getElem?_setIfInBounds]
  by_cases e:d=n
  ·subst e
   simp at hn
   subst hn
   simp[h.size,hdN]
  ·have hb:Nat.beq d n=false:=by
    cases hb:Nat.beq d n with
    |false=> rfl
    |true=> exact absurd (Nat.eq_of_beq_eq_true hb) e
   rw[hb]at hn
   rw[if_neg e]
   exact h.look n u hn
def Sub (t' t:Tm):Prop:=∀n v,look t' n=some v→look t n=some v
theorem Fr.sub {N:Nat}{t t':Tm}{a:Act}(h:Fr N t a) (hs:Sub t' t):Fr N t' a:=⟨h.size,h.defers,fun n v hn=> h.look n v (hs n v hn)⟩
theorem Sub.nil {t:Tm}:Sub [] t:=fun _ _ h=> aW
theorem Sub.cons {t t':Tm}{n:Nat}{v:Value}(h:look t n=some v) (hs:Sub t' t):Sub ((n,v)::t') t:=by
 intro m u hm
 simp only[look]at hm
 cases hb:Nat.beq n m with
 |true=>
  rw[hb]at hm
  obtain rfl:=Nat.eq_of_beq_eq_true hb
  simp at hm
  rw[←hm];exact h
 |false=> rw[hb]at hm;exact hs m u hm
theorem Sub.refl {t:Tm}:Sub t t:=fun _ _ h=> h
end Go.Sx
