import Derived.KernelRfl
import Derived.Calls
import Derived.Tactics
import Derived.Orders
import Derived.Still
set_option linter.unusedVariables false
set_option linter.unusedSimpArgs false
set_option linter.unusedSectionVars false
set_option linter.unnecessarySimpa false
set_option maxHeartbeats 0
namespace Go.Sx
open Go
theorem Za {p : Prop} [Decidable p] : (decide p = true) = p := decide_eq_true_eq
theorem Zb {p : Prop} [Decidable p] : decide p = false ↔ ¬p := decide_eq_false_iff_not
theorem Zc (b : Bool) : ((!b) = true) = (b = false) := Bool.not_eq_true' b
theorem Zd (b : Bool) : ((!b) = false) = (b = true) := Bool.not_eq_false' b
theorem Ze (a b : Bool) : ((a && b) = true) = (a = true ∧ b = true) := Bool.and_eq_true a b
theorem Zf (a b : Bool) : ((a || b) = true) = (a = true ∨ b = true) := Bool.or_eq_true a b
theorem Zg {α : Type} (a b : α) : (a ≠ b) = ¬(a = b) := ne_eq a b
theorem Zh {p : Prop} [Decidable p] : ¬¬p ↔ p := Decidable.not_not
theorem Ya {α : Type} {a b : List α} : (a ++ b).length = a.length + b.length := List.length_append
theorem Yb {α : Type} {a : α} {l : List α} : (a :: l).length = l.length + 1 := rfl
theorem Yc {α : Type} : ([] : List α).length = 0 := rfl
theorem Yd {α : Type} {a : α} {l m : List α} : (a :: l) ++ m = a :: (l ++ m) := rfl
theorem Ye {α : Type} (l : List α) : [] ++ l = l := rfl
theorem Yf {α : Type} (a b c : List α) : a ++ b ++ c = a ++ (b ++ c) := List.append_assoc a b c
theorem Yg {α : Type} {n : Nat} {l : List α} : (l.take n).length = min n l.length := List.length_take
theorem Yh {α β : Type} {l : List α} (f : α → β) : (l.map f).length = l.length := List.length_map f
theorem Yi {α : Type} {l : List α} {i : Nat} (h : i < l.length) : l[i]? = some l[i] := List.getElem?_eq_getElem h
theorem Yj {α : Type} {l : List α} {i : Nat} {a : α} (h : l[i]? = some a) : a ∈ l := List.mem_of_getElem? h
theorem Yk {α : Type} {l : List α} {i : Nat} {a : α} : l[i]? = some a ↔ ∃ h : i < l.length, l[i] = a := List.getElem?_eq_some_iff
theorem Yl (n : Nat) : 0 ≤ n := Nat.zero_le n
theorem Ym {α : Type} (l : List α) : l ++ [] = l := List.append_nil l
theorem Yo {α : Type} {i : Nat} {l : List α} : (l.drop i).length = l.length - i := List.length_drop
theorem Yp {α : Type} {n : Nat} {l : List α} {a : α} (h : a ∈ l.drop n) : a ∈ l := List.mem_of_mem_drop h
theorem Yq {α : Type} {n : Nat} {l : List α} {a : α} (h : a ∈ l.take n) : a ∈ l := List.mem_of_mem_take h
theorem Yr {p : Prop} [Decidable p] (h : ¬p) : decide p = false := decide_eq_false h
theorem Ys {p : Prop} [Decidable p] (h : p) : decide p = true := decide_eq_true h
theorem Yt {p : Prop} [Decidable p] (h : decide p = true) : p := of_decide_eq_true h
theorem Yu {α : Type} {a b : List α} {i : Nat} (h : a.length ≤ i) : (a ++ b)[i]? = b[i - a.length]? := List.getElem?_append_right h
theorem Yv {α : Type} {a b : List α} {i : Nat} (h : i < a.length) : (a ++ b)[i]? = a[i]? := List.getElem?_append_left h
theorem Yx {α : Type} {a : α} (l : List α) {m : List α} (h : a ∈ m) : a ∈ l ++ m := List.mem_append_right l h
theorem Yy {α : Type} {a : α} {l : List α} (m : List α) (h : a ∈ l) : a ∈ l ++ m := List.mem_append_left m h
theorem Xa {α : Type} (y : α) {a : α} {l : List α} (h : a ∈ l) : a ∈ y :: l := List.mem_cons_of_mem y h
theorem Xb {α : Type} {a : α} {l : List α} : (a :: l)[0]? = some a := rfl
theorem Xc {α : Type} {a : α} {l : List α} {i : Nat} : (a :: l)[i + 1]? = l[i]? := rfl
theorem Xd {α β : Type} {f : α → β} {l : List α} {i : Nat} : (l.map f)[i]? = l[i]?.map f := List.getElem?_map
theorem Xh {α : Type} {l : List α} {i j : Nat} : (l.drop i)[j]? = l[i + j]? := List.getElem?_drop
theorem Xi {a b c : Nat} (h : a ≤ b) (k : b ≤ c) : a ≤ c := Nat.le_trans h k
theorem BL {a b : Nat} (h : Nat.ble a b = true := by rfl) : a ≤ b := Nat.le_of_ble_eq_true h
theorem a8 {p : Prop} (h : p := by omega) : p := h
theorem aa {p : Prop} (h : p := by kernel_rfl) : p := h
theorem ab {p : Prop} (h : p := by subst hi; infer_instance) : p := h
theorem ad {p : Prop} (h : p := by subst hi; exact cI (by kernel_rfl)) : p := h
theorem ae {p : Prop} (h : p := by first | exact cS 18446744073709551616 rfl rfl rfl _ rfl (by omega) | exact dd 18446744073709551616 rfl rfl rfl _ rfl) : p := h
theorem af {p : Prop} (h : p := by first | omega | (simp only [Ya, Yb, Yc]; omega) | (simp; omega)) : p := h
theorem ag {p : Prop} (h : p := by decide) : p := h
theorem ah {p : Prop} (h : p := by simp only [Ya]; omega) : p := h
theorem ai {p : Prop} (h : p := by first | decide | omega) : p := h
theorem aj {p : Prop} (h : p := by simp) : p := h
theorem ak {p : Prop} (h : p := by rw [hI, show lF i c = false from Yr (by omega)]; rfl) : p := h
theorem al {p : Prop} (h : p := by first | exact cS 4294967296 rfl rfl rfl _ rfl (by omega) | exact dd 4294967296 rfl rfl rfl _ rfl) : p := h
theorem an {p : Prop} (h : p := by decide +kernel) : p := h
theorem ao {p : Prop} (h : p := by first | exact cS 256 rfl rfl rfl _ rfl (by omega) | exact dd 256 rfl rfl rfl _ rfl) : p := h
theorem aq {p : Prop} (h : p := by have hN := hH rfl; exact ldv) : p := h
theorem au {p : Prop} (h : p := by simp; omega) : p := h
theorem aw {p : Prop} (h : p := by show _ ≤ (9223372036854775807 : Int); omega) : p := h
theorem ax {p : Prop} (h : p := by rw [Yg]; omega) : p := h
theorem ay {p : Prop} (h : p := by assumption) : p := h
theorem az {p : Prop} (h : p := by (subst_vars; rfl)) : p := h
theorem aA {p : Prop} (h : p := by unfold fZ; rw [if_neg (by omega), if_pos (by omega)]; simp_all [oU]) : p := h
theorem aB {p : Prop} (h : p := by simp only [Ya, Yb, Yc]; omega) : p := h
theorem aC {p : Prop} (h : p := by rw [Yo]; omega) : p := h
theorem aD {p : Prop} (h : p := by have hN := hH.1 rfl; exact ldv) : p := h
theorem aE {p : Prop} (h : p := by first | omega | (simp; omega)) : p := h
theorem aF {p : Prop} (h : p := by have hN := hH.1 rfl; exact lds) : p := h
theorem aG {p : Prop} (h : p := by first | rfl | omega) : p := h
theorem aH {p : Prop} (h : p := by first | decide | (show _ ≤ 32; omega)) : p := h
theorem aI {p : Prop} (h : p := by rfl) : p := h
theorem aJ {p : Prop} (h : p := by simp only [Yb]; omega) : p := h
theorem aK {p : Prop} (h : p := by have hN := hH.2 rfl; exact ldv) : p := h
theorem aL {p : Prop} (h : p := by simp only [Op.equalIn, Sem.run_bind, df (T := T), Result.andThen_ok, Sem.run_pure]) : p := h
theorem aM {p : Prop} (h : p := by first | decide | (show _ ≤ 64; omega)) : p := h
theorem aN {p : Prop} (h : p := by rw [je (by omega) (by omega) hkj hend]; rfl) : p := h
theorem aO {p : Prop} (h : p := by have hN := hH.2.1 rfl; exact ldv) : p := h
theorem aP {p : Prop} (h : p := by simp only; omega) : p := h
theorem aQ {p : Prop} (h : p := by obtain ⟨L1, L2, rfl, _, h2⟩ := hL; obtain ⟨E, fz, hm⟩ := h.out L2 h2; exact ⟨E, fz, Yx _ hm⟩) : p := h
theorem aR {p : Prop} (h : p := by simp at h) : p := h
theorem aS {p : Prop} (h : p := by rw [Ya]; omega) : p := h
theorem aT {p : Prop} (h : p := by simp [execOp, hρ _ _ hx, hρ _ _ hy, eqGuard, binOp, Op.intCmp]) : p := h
theorem aU {p : Prop} (h : p := by have := lz (fun p hp => (hsm.2 p hp).1) x hx; omega) : p := h
theorem aV {p : Prop} (h : p := by rw [dT, Yh]; omega) : p := h
theorem aW {p : Prop} (h : p := by rw [fG, if_neg (by rw [hc]; simp), if_pos (by omega)]) : p := h
theorem aX {p : Prop} (h : p := by rw [hI, kf, hor, Nat.mod_eq_of_lt (by omega)]; rfl) : p := h
theorem aY {p : Prop} (h : p := by have := (hc2 f hf).1; omega) : p := h
theorem aZ {p : Prop} (h : p := by simp at h; subst h; rfl) : p := h
theorem bc {p : Prop} (h : p := by simp only [Yb, Yc]; omega) : p := h
theorem bf {p : Prop} (h : p := by simp [eM]) : p := h
theorem bg {p : Prop} (h : p := by simp [execOp, hρ _ _ hx, hρ _ _ hy, eqGuard, binOp, Op.intArith, iM h]) : p := h
theorem bj {p : Prop} (h : p := by unfold ij; rw [Yr (by omega)]; rfl) : p := h
theorem bm {p : Prop} (h : p := by have hN := hH.1 rfl; exact fla) : p := h
theorem bn {p : Prop} (h : p := by first | exact kl 18446744073709551616 rfl rfl rfl rfl _ _ rfl rfl (by omega) | exact lV 18446744073709551616 rfl rfl rfl rfl _ _ rfl rfl) : p := h
theorem bt {p : Prop} (h : p := by first | exact kl 18446744073709551616 rfl rfl rfl rfl _ 1 rfl rfl (by omega) | exact lV 18446744073709551616 rfl rfl rfl rfl _ 1 rfl rfl) : p := h
theorem bu {p : Prop} (h : p := by simp [da]) : p := h
theorem bx {p : Prop} (h : p := by rw [e.len]; omega) : p := h
theorem bz {p : Prop} (h : p := by unfold e7; rw [Yr (by omega)]; rfl) : p := h
theorem bA {p : Prop} (h : p := by simpa using hl) : p := h
theorem bB {p : Prop} (h : p := by simp only [Yf]; exact (h6.append_left L3).append_left L1) : p := h
theorem bC {p : Prop} (h : p := by cases h) : p := h
theorem bD {p : Prop} (h : p := by first | exact qw (p := odd) (q := decide ((31 : Int) < ((x : Nat) : Int))) rfl ho rfl | exact qx (p := odd) rfl ho rfl) : p := h
theorem bE {p : Prop} (h : p := by rw [Nat.add_mul]; omega) : p := h
theorem bF {p : Prop} (h : p := by rw [hT, hth]; rfl) : p := h
theorem bG {p : Prop} (h : p := by unfold et; omega) : p := h
theorem bH {p : Prop} (h : p := by unfold eg; omega) : p := h
theorem bI {p : Prop} (h : p := by rw [e.all_length, Yg, Nat.min_eq_left (by omega)]) : p := h
theorem bJ {p : Prop} (h : p := by have := (k2 d hd).2 v hv; omega) : p := h
theorem bK {p : Prop} (h : p := by rw [← hI, j2 (by omega)]) : p := h
theorem bL {p : Prop} (h : p := by rw [dL, he]; simp only [List.drop_drop]; rw [hI]; rfl) : p := h
theorem bM {p : Prop} (h : p := by cases b with | true => exact h1 rfl | false => exact h2 rfl) : p := h
theorem bN {p : Prop} (h : p := by have := qn (fun p hp => (hsm.2 p hp).2.1) x hx; omega) : p := h
theorem bO {p : Prop} (h : p := by rw [h0] at hr; cases hr) : p := h
theorem bP {p : Prop} (h : p := by unfold fZ; rw [if_neg (by omega), if_neg (by omega)]) : p := h
theorem bQ {p : Prop} (h : p := by have := congrArg List.length hk.keys; simpa using this) : p := h
theorem bR {p : Prop} (h : p := by rw [hx4]; simp only [ne_eq, Option.some.injEq]; omega) : p := h
theorem bS {p : Prop} (h : p := by show _ ≤ 64; omega) : p := h
theorem bT {p : Prop} (h : p := by rw [hpl, List.take_length]) : p := h
theorem bU {p : Prop} (h : p := by have := (k2 d hd).1; omega) : p := h
theorem bV {p : Prop} (h : p := by have hN := hH.2.2.1 rfl; exact fle) : p := h
theorem bW {p : Prop} (h : p := by rw [hc]; decide) : p := h
theorem bX {p : Prop} (h : p := by rw [iD, ← hub, rQ, hA, Yr (by omega), Bool.not_true, Bool.or_false, cond_false]) : p := h
theorem bY {p : Prop} (h : p := by simpa using h) : p := h
theorem bZ {p : Prop} (h : p := by rw [iQ, Yh]; omega) : p := h
theorem c6 {p : Prop} (h : p := by simp [Region.wanted]) : p := h
theorem c8 {p : Prop} (h : p := by first | exact rfl | exact jb (by simp_all [lsC])) : p := h
theorem c9 {p : Prop} (h : p := by have hN := hH.2.2 rfl; exact ldv) : p := h
theorem ca {p : Prop} (h : p := by rcases hck with ⟨h9, _⟩ | ⟨_, h9⟩; exact absurd h9 (by rw [hc]; decide); exact fun h8 => h8 h9) : p := h
theorem cb {p : Prop} (h : p := by rw [hp2]; simp only [Ya]; omega) : p := h
theorem cc {p : Prop} (h : p := by rw [hl]; omega) : p := h
theorem cf {p : Prop} (h : p := by rw [Yo, Yg]; omega) : p := h
theorem cg {p : Prop} (h : p := by have := hfn f hf; omega) : p := h
theorem cj {p : Prop} (h : p := by have hN := hH.2 rfl; exact lds) : p := h
theorem ck {p : Prop} (h : p := by have := e.small; omega) : p := h
theorem cm {p : Prop} (h : p := by have := (hsz q hq).2.2; omega) : p := h
theorem cn {p : Prop} (h : p := by first | exact rfl | exact jb (by simp_all)) : p := h
theorem cq {p : Prop} (h : p := by rw [mg (o := ⟨dst, op, ty, pos, after, some (k, want)⟩) ha rfl hk hv]; simp) : p := h
theorem cr {p : Prop} (h : p := by rw [mg (o := ⟨dst, op, ty, pos, after, some (j, want)⟩) ha rfl hj hv]; simp) : p := h
theorem ct {p : Prop} (h : p := by obtain ⟨h1, h2⟩ := h; obtain ⟨n, b, h3, h4⟩ := EP h1; exact ⟨n, b, h3, h4, h2⟩) : p := h
theorem cu {p : Prop} (h : p := by rw [hI, hk]; simp) : p := h
theorem cv {p : Prop} (h : p := by rw [e]; exact hsb) : p := h
theorem cw {p : Prop} (h : p := by rw [gP]; omega) : p := h
theorem cx {p : Prop} (h : p := by simpa using h1) : p := h
theorem cy {p : Prop} (h : p := by have h := h6; simpa using h) : p := h
theorem cz {p : Prop} (h : p := by have := hok.inr x hx; omega) : p := h
theorem cA {p : Prop} (h : p := by have := (hsz q hq).1; omega) : p := h
theorem cB {p : Prop} (h : p := by rw [Yg, ew]; omega) : p := h
theorem cC {p : Prop} (h : p := by simp [gC]) : p := h
theorem cD {p : Prop} (h : p := by simp only [eM, Ya, Yb, Yc]; omega) : p := h
structure cM where
 os:Os
 tape:Nat→Question→Nat
 output:Array (Nat×ByteArray)
 eT:TypeId
 eb:Nat→Nat
 eo:Nat→Nat
structure AD (G:cM) (w:World):Prop where
 os:w.os=G.os
 tape:w.tape=G.tape
 output:w.output=G.output
abbrev nD:=List (Nat×Obj)
abbrev Hp:=nD→Prop
abbrev cG:=List Hp
def Sep:cG→nD→Prop
 | [],L=> L= []
 |A::H,L=> ∃L1 L2,L=L1++L2∧A L1∧Sep H L2
structure kD (w:World) (L:nD):Prop where
 nodup:(L.map (·.1)).Nodup
 at_:∀x∈L,w.heap[x.1]? =some x.2
def Sat (G:cM) (w:World) (H:cG):Prop:=AD G w∧∃L,Sep H L∧kD w L
def Pt (b:Nat) (o:Obj):Hp:=fun L=> L= [(b,o)]
theorem Sat.same {G:cM}{w w':World}{H:cG}(h:Sat G w H) (hh:w'.heap=w.heap) (hs:AD G w'):Sat G w' H:=by
 obtain⟨_,L,hL,hl⟩:=h
 exact⟨hs,L,hL,hl.nodup,by rw[hh];exact hl.at_⟩
theorem Sat.drop {G:cM}{w:World}{A:Hp}{H:cG}(h:Sat G w (A::H)):Sat G w H:=by
 obtain⟨hs,L,⟨L1,L2,rfl,_,hL2⟩,hl⟩:=h
 refine⟨hs,L2,hL2,?_,fun x hx=> hl.at_ x (Yx _ hx)⟩
 have:=hl.nodup
 rw[List.map_append]at this
 exact(List.nodup_append.1 this).2.1
theorem Sat.cons {G:cM}{w:World}{A B:Hp}{H:cG}(h:Sat G w (A::H)) (hab:∀L,A L→B L):Sat G w (B::H):=by
 obtain⟨hs,L,⟨L1,L2,rfl,h1,hL2⟩,hl⟩:=h
 exact⟨hs,_,⟨L1,L2,rfl,hab _ h1,hL2⟩,hl⟩
theorem Sat.imp {G:cM}{w:World}{H H':cG}(h:Sat G w H) (hab:∀L,Sep H L→∃L',Sep H' L'∧(L'.Sublist L∨L'.Perm L)):Sat G w H':=by
 obtain⟨hs,L,hL,hl⟩:=h
 obtain⟨L',hL',hp⟩:=hab L hL
 refine⟨hs,L',hL',?_,?_⟩
 ·rcases hp with hp|hp
  ·exact(hp.map _).nodup hl.nodup
  ·exact((hp.map _).nodup_iff).2 hl.nodup
 ·intro x hx
  rcases hp with hp|hp
  ·exact hl.at_ x (hp.subset hx)
  ·exact hl.at_ x (hp.mem_iff.1 hx)
theorem kD.lt {w:World}{L:nD}(h:kD w L) {x:Nat×Obj}(hx:x∈L):x.1<w.heap.size:=by
 have:=h.at_ x hx
 exact(Array.getElem?_eq_some_iff.1 this).1
theorem Sat.alloc {G:cM}{w:World}{H:cG}(h:Sat G w H) (o:Obj):Sat G {w with heap:=w.heap.push o} (Pt w.heap.size o::H):=by
 obtain⟨hs,L,hL,hl⟩:=h
 refine⟨⟨hs.os,hs.tape,hs.output⟩,(w.heap.size,o)::L,⟨[(w.heap.size,o)],L,rfl,rfl,hL⟩,?_,?_⟩
 ·rw[List.map_cons,List.nodup_cons]
  refine⟨fun hm=> ?_,hl.nodup⟩
  obtain⟨x,hx,he⟩:=List.mem_map.1 hm
  have:=hl.lt hx
  simp only at he
  omega
 ·intro x hx
  rcases List.mem_cons.1 hx with rfl|hx
  ·simp
  ·have:=hl.lt hx
   have h2:=hl.at_ x hx
   simp only[Array.getElem?_push]
   rw[if_neg (a8)]
   exact h2
theorem kD.change {w w':World}{L1 L2:nD}{b:Nat}{o o':Obj}(h:kD w (L1++(b,o)::L2)) (hb:w'.heap[b]? =some o')
 (hk:∀i,i≠b→i<w.heap.size→w'.heap[i]? =w.heap[i]?):kD w' (L1++(b,o')::L2):=by
 have hn:=h.nodup
 refine⟨by simpa using hn,fun x hx=> ?_⟩
 simp only[List.map_append,List.map_cons,List.nodup_append,List.nodup_cons]at hn
 obtain⟨hn1,⟨hn2,hn3⟩,hn4⟩:=hn
 rcases List.mem_append.1 hx with hx|hx
 ·have hm:x∈L1++(b,o)::L2:=Yy _ hx
  rw[hk x.1 (fun he=> hn4 x.1 (List.mem_map_of_mem hx) b (aj) he) (h.lt hm)]
  exact h.at_ x hm
 ·rcases List.mem_cons.1 hx with rfl|hx
  ·exact hb
  ·have hm:x∈L1++(b,o)::L2:=Yx _ (Xa _ hx)
   rw[hk x.1 (fun he=> hn2 (he ▸ List.mem_map_of_mem hx)) (h.lt hm)]
   exact h.at_ x hm
class Has (H:cG) (b:Nat) (o:outParam Obj):Prop where
 mem:∀L,Sep H L→(b,o)∈L
instance Has.tail {A:Hp}{H:cG}{b:Nat}{o:Obj} [h:Has H b o]:Has (A::H) b o:=
 ⟨fun L hL=> by obtain⟨L1,L2,rfl,_,h2⟩:=hL;exact Yx _ (h.mem _ h2)⟩
instance Has.head {H:cG}{b:Nat}{o:Obj}:Has (Pt b o::H) b o:=
 ⟨fun L hL=> by obtain⟨L1,L2,rfl,h1,_⟩:=hL;rw[show L1= [(b,o)]from h1];simp⟩
theorem Has.get {G:cM}{w:World}{H:cG}{b:Nat}{o:Obj}(h:Has H b o) (hs:Sat G w H):w.heap[b]? =some o:=by
 obtain⟨_,L,hL,hl⟩:=hs
 exact hl.at_ _ (h.mem L hL)
class Foc (H:cG) {ι α:Type}(K:ι→α→Hp) (i:ι) (a:outParam α) (C:outParam (Hp→cG)):Prop where
 foc:∀L,Sep H L→∃L1 M L2,L=L1++(M++L2)∧K i a M∧∀(B:Hp) M',B M'→Sep (C B) (L1++(M'++L2))
instance Foc.tail {A:Hp}{H:cG}{ι α:Type}{K:ι→α→Hp}{i:ι}{a:α}{C:Hp→cG} [h:Foc H K i a C]:Foc (A::H) K i a (fun B=> A::C B):=
 ⟨fun L hL=> by
  obtain⟨N1,N2,rfl,hA,h2⟩:=hL
  obtain⟨L1,M,L2,rfl,hM,hB⟩:=h.foc _ h2
  refine⟨N1++L1,M,L2,aj,hM,fun B M' hm=> ⟨N1,L1++(M'++L2),aj,hA,hB B M' hm⟩⟩⟩
instance Foc.head {H:cG}{ι α:Type}{K:ι→α→Hp}{i:ι}{a:α}:Foc (K i a::H) K i a (fun B=> B::H):=
 ⟨fun L hL=> by
  obtain⟨L1,L2,rfl,h1,h2⟩:=hL
  exact⟨[],L1,L2,rfl,h1,fun B M' hm=> ⟨M',L2,rfl,hm,h2⟩⟩⟩
theorem Foc.sat {G:cM}{w:World}{H:cG}{ι α:Type}{K:ι→α→Hp}{i:ι}{a:α}{C:Hp→cG}(h:Foc H K i a C) (hs:Sat G w H) (B:Hp) (hab:∀M,K i a M→B M):Sat G w (C B):=by
 obtain⟨hS,L,hL,hl⟩:=hs
 obtain⟨L1,M,L2,rfl,hM,hB⟩:=h.foc _ hL
 exact⟨hS,_,hB B M (hab M hM),hl⟩
theorem Foc.get {G:cM}{w:World}{H:cG}{b:Nat}{o:Obj}{C:Hp→cG}(h:Foc H Pt b o C) (hs:Sat G w H):w.heap[b]? =some o:=by
 obtain⟨_,L,hL,hl⟩:=hs
 obtain⟨L1,M,L2,rfl,hM,_⟩:=h.foc _ hL
 have hM':M= [(b,o)]:=hM
 subst hM'
 exact hl.at_ (b,o) (aj)
theorem Foc.change {G:cM}{w w':World}{H:cG}{b:Nat}{o o':Obj}{C:Hp→cG}(h:Foc H Pt b o C) (hs:Sat G w H) (hS:AD G w') (hb:w'.heap[b]? =some o')
 (hk:∀i,i≠b→i<w.heap.size→w'.heap[i]? =w.heap[i]?):Sat G w' (C (Pt b o')):=by
 obtain⟨_,L,hL,hl⟩:=hs
 obtain⟨L1,M,L2,rfl,hM,hB⟩:=h.foc _ hL
 have hM':M= [(b,o)]:=hM
 subst hM'
 have:=hB (Pt b o') [(b,o')] rfl
 exact⟨hS,_,this,by simpa using kD.change (bA) hb hk⟩
abbrev Tm:=List (Nat×Value)
def look:Tm→Nat→Option Value
 | [],_=> none
 |(m,v)::t,n=> bif Nat.beq m n then some v else look t n
def evo (t:Tm):Operand→Option Value
 | .tmp n=> look t n
 | .const v=> some v
 | .global g=> some (.pointer (some ⟨g,0,none⟩))
 | .func f=> some (.func (.func f) #[] #[])
def uB (t:Tm):List Operand→Option (List Value)
 | []=> some []
 |x::xs=> match evo t x,uB t xs with
  |some v,some vs=> some (v::vs)
  |_,_=> none
structure Fr (N:Nat) (t:Tm) (a:Act):Prop where
 size:a.tmps.size=N
 defers:a.defers= []
 look:∀n v,look t n=some v→a.tmps[n]? =some v
def zg (t:Tm) (ρ:Operand→Value):Prop:=∀x v,evo t x=some v→ρ x=v
theorem Fr.agree {N:Nat}{t:Tm}{a:Act}(h:Fr N t a):zg t a.eval:=by
 intro x v hx
 cases x with
 |tmp n=> simp only[Act.eval,Array.getD_eq_getD_getElem?,h.look n v hx,Option.getD_some]
 |const u=> exact Option.some.inj hx
 |global g=> exact Option.some.inj hx
 |func f=> exact Option.some.inj hx
def put (t:Tm):Option Tmp→Value→Tm
 |none,_=> t
 |some d,v=> (d,v)::t
def fX (N:Nat):Option Tmp→Bool
 |none=> true
 |some d=> Nat.blt d N
theorem Fr.put {N:Nat}{t:Tm}{a:Act}{d:Option Tmp}(h:Fr N t a) (hd:fX N d=true) (v:Value):Fr N (put t d v) (a.put d v):=by
 cases d with
 |none=> exact h
 |some d=>
  have hdN:d<N:=by simpa [fX] using hd
  refine⟨by simp[Act.put,h.size],h.defers,fun n u hn=> ?_⟩
  simp only[Sx.put,Sx.look]at hn
  simp only[Act.put,Array.getElem?_setIfInBounds]
  by_cases e:d=n
  ·subst e
   simp at hn
   subst hn
   simp[h.size,hdN]
  ·have hb:Nat.beq d n=false:=by
    cases hb:Nat.beq d n with
    |false=> rfl
    |true=> exact absurd (Nat.eq_of_beq_eq_true hb) e
   rw[hb]at hn
   rw[if_neg e]
   exact h.look n u hn
def Sub (t' t:Tm):Prop:=∀n v,look t' n=some v→look t n=some v
theorem Fr.sub {N:Nat}{t t':Tm}{a:Act}(h:Fr N t a) (hs:Sub t' t):Fr N t' a:=⟨h.size,h.defers,fun n v hn=> h.look n v (hs n v hn)⟩
theorem Sub.nil {t:Tm}:Sub [] t:=fun _ _ h=> bC
theorem Sub.cons {t t':Tm}{n:Nat}{v:Value}(h:look t n=some v) (hs:Sub t' t):Sub ((n,v)::t') t:=by
 intro m u hm
 simp only[look]at hm
 cases hb:Nat.beq n m with
 |true=>
  rw[hb]at hm
  obtain rfl:=Nat.eq_of_beq_eq_true hb
  simp at hm
  rw[←hm];exact h
 |false=> rw[hb]at hm;exact hs m u hm
theorem Sub.refl {t:Tm}:Sub t t:=fun _ _ h=> h
section
variable (G:cM) (P:Program) (N:Nat)
abbrev fY:=Exit→Tm→cG→Prop
def up (Q:fY):Exit→Act→World→Prop:=fun e a w=> ∃t H,Fr N t a∧Sat G w H∧Q e t H
structure W (c:Code) (Q:fY) (t:Tm) (H:cG):Prop where
 go:∀a w,Fr N t a→Sat G w H→Code.wp P c (up G N Q) a w
structure O (ops:Array Oper) (l:List Oper) (Q:fY) (t:Tm) (H:cG):Prop where
 go:∀a w,Fr N t a→Sat G w H→wpList P ops (up G N Q) l a w
def Gq (y:Code) (Q:fY):fY:=fun e t H=> match e with
 | .normal=> W G P N y Q t H
 |e=> Q e t H
def xd (id:Nat) (Q:fY):fY:=fun e t H=> match e with
 | .exit id'=> bif Nat.beq id' id then Q .normal t H else Q (.exit id') t H
 |e=> Q e t H
end
section
variable {G:cM}{P:Program}{N:Nat}{Q:fY}{t:Tm}{H:cG}
theorem GI {Q Q':fY}(h:∀e t H,Q e t H→Q' e t H) {e:Exit}{a:Act}{w:World}(hu:up G N Q e a w):up G N Q' e a w:=
 let ⟨t,H,h1,h2,h3⟩:=hu
 ⟨t,H,h1,h2,h _ _ _ h3⟩
theorem Jv (h:Q .normal t H):W G P N .skip Q t H:=⟨fun _ _ ha hw=> wp_skip ⟨t,H,ha,hw,h⟩⟩
theorem Jx {id:Nat}(h:Q (.exit id) t H):W G P N (.exit id) Q t H:=⟨fun _ _ ha hw=> wp_exit ⟨t,H,ha,hw,h⟩⟩
theorem LA (h:Q .ret t H):W G P N .ret Q t H:=⟨fun _ _ ha hw=> wp_ret ⟨t,H,ha,hw,h⟩⟩
theorem AL {x y:Code}(h:W G P N x (Gq G P N y Q) t H):W G P N (.seq x y) Q t H:=
 ⟨fun a w ha hw=> wp_seq (wp_mono (h.go a w ha hw) fun e a' w' hu=> by
  obtain⟨t',H',ha',hw',hq⟩:=hu
  cases e <;> first|exact hq.go a' w' ha' hw'|exact⟨t',H',ha',hw',hq⟩)⟩
theorem GG {id:Nat}{c:Code}(h:W G P N c (xd id Q) t H):W G P N (.block id c) Q t H:=
 ⟨fun a w ha hw=> wp_block (wp_mono (h.go a w ha hw) fun e a' w' hu=> by
  obtain⟨t',H',ha',hw',hq⟩:=hu
  cases e with
  |exit id'=>
   simp only[xd]at hq
   simp only[Exit.inBlock]
   cases hb:Nat.beq id' id with
   |true=>
    rw[hb]at hq
    rw[if_pos (Nat.eq_of_beq_eq_true hb)]
    exact⟨t',H',ha',hw',hq⟩
   |false=>
    rw[hb]at hq
    rw[if_neg (fun e=> by rw[e]at hb;exact absurd (Nat.beq_refl id) (by rw[hb];simp))]
    exact⟨t',H',ha',hw',hq⟩
  |_=> exact⟨t',H',ha',hw',hq⟩)⟩
theorem GF {c:Operand}{x y:Code}{b:Bool}(hc:evo t c=some (.bool b)) (ht:b=true→W G P N x Q t H) (hf:b=false→W G P N y Q t H):W G P N (.cond c x y) Q t H:=
 ⟨fun a w ha hw=> wp_cond (t:=b) (ha.agree c _ hc) (by
  cases b with
  |true=> exact(ht rfl).go a w ha hw
  |false=> exact(hf rfl).go a w ha hw)⟩
theorem BN {c:Operand}{x y:Code}(hc:evo t c=some (.bool true)) (ht:W G P N x Q t H):W G P N (.cond c x y) Q t H:=
 GF hc (fun _=> ht) (fun h=> bC)
theorem zm {c:Operand}{x y:Code}(hc:evo t c=some (.bool false)) (ht:W G P N y Q t H):W G P N (.cond c x y) Q t H:=
 GF hc (fun h=> bC) (fun _=> ht)
theorem Df {id:Nat}{l:List Oper}(h:O G P N l.toArray l Q t H):W G P N (.region id l.toArray false) Q t H:=
 ⟨fun a w ha hw=> wp_region_lit (h.go a w ha hw)⟩
theorem EM {ops:Array Oper}(h:Q .normal t H):O G P N ops [] Q t H:=⟨fun _ _ ha hw=> wpList_nil ⟨t,H,ha,hw,h⟩⟩
theorem De {c:Code}{t':Tm}(hs:Sub t' t) (h:W G P N c Q t' H):W G P N c Q t H:=⟨fun a w ha hw=> h.go a w (ha.sub hs) hw⟩
theorem zl {c:Code}{Q':fY}(h:W G P N c Q' t H) (hq:∀e t H,Q' e t H→Q e t H):W G P N c Q t H:=⟨fun a w ha hw=> wp_mono (h.go a w ha hw) fun _ _ _ hu=> GI hq hu⟩
def cK (H H':cG):Prop:=∀L,Sep H L→∃L' M,Sep H' L'∧(L'++M).Perm L
theorem cK.refl {H:cG}:cK H H:=fun L h=> ⟨L, [],h,aj⟩
theorem cK.trans {H H' H'':cG}(h:cK H H') (h':cK H' H''):cK H H'':=fun L hL=>
 let ⟨L',M,h1,h2⟩:=h L hL
 let ⟨L'',M',h3,h4⟩:=h' L' h1
 ⟨L'',M'++M,h3,by rw[←Yf];exact(h4.append_right M).trans h2⟩
theorem cK.drop {A:Hp}{H H':cG}(h:cK H H'):cK (A::H) H':=fun L hL=> by
 obtain⟨L1,L2,rfl,_,h2⟩:=hL
 obtain⟨L',M,h3,h4⟩:=h L2 h2
 exact⟨L',M++L1,h3,by rw[←Yf];exact(h4.append_right L1).trans List.perm_append_comm⟩
theorem cK.imp {A B:Hp}{H H':cG}(hab:∀L,A L→B L) (h:cK H H'):cK (A::H) (B::H'):=fun L hL=> by
 obtain⟨L1,L2,rfl,h1,h2⟩:=hL
 obtain⟨L',M,h3,h4⟩:=h L2 h2
 exact⟨L1++L',M,⟨L1,L',rfl,hab _ h1,h3⟩,by rw[Yf];exact h4.append_left L1⟩
theorem cK.keep {A:Hp}{H H':cG}(h:cK H H'):cK (A::H) (A::H'):=cK.imp (fun _ h=> h) h
theorem cK.add {A:Hp}{H H':cG}(hA:A []) (h:cK H H'):cK H (A::H'):=fun L hL=> by
 obtain⟨L',M,h3,h4⟩:=h L hL
 exact⟨L',M,⟨[],L',rfl,hA,h3⟩,h4⟩
theorem cK.sat {H H':cG}(h:cK H H') {w:World}(hw:Sat G w H):Sat G w H':=by
 obtain⟨hs,L,hL,hl⟩:=hw
 obtain⟨L',M,h1,h2⟩:=h L hL
 refine⟨hs,L',h1,?_,fun x hx=> hl.at_ x (h2.mem_iff.1 (Yy M hx))⟩
 have h3:=((h2.map (·.1)).nodup_iff).2 hl.nodup
 rw[List.map_append]at h3
 exact(List.nodup_append.1 h3).1
def wa {α:Type}(I:α→Prop) (fr:α→Tm) (hp:α→cG) (μ:α→Nat) (x:α) (Q:fY):fY:=fun e t H=> match e with
 | .normal=> ∃y,I y∧μ y<μ x∧Sub (fr y) t∧cK H (hp y)
 |e=> Q e t H
theorem Dg {c:Code}(α:Type) (I:α→Prop) (fr:α→Tm) (hp:α→cG) (μ:α→Nat) (x0:α) (h0:I x0) (hs:Sub (fr x0) t) (hh:cK H (hp x0))
 (round:∀x,I x→W G P N c (wa I fr hp μ x Q) (fr x) (hp x)):W G P N (.loop c) Q t H:=by
 refine⟨fun a w ha hw=> ?_⟩
 intro b k cs
 have key:∀n x,μ x=n→I x→∀a w,Fr N (fr x) a→Sat G w (hp x)→
  ∃e a' w',up G N Q e a' w'∧Arrives P (lone (b.at a (.code c:: .inLoop c::k)) cs w) b k cs e a' w':=by
  intro n
  induction n using Nat.strongRecOn with
  |_ n ih=>
   intro x hn hI a w ha hw
   obtain⟨e,a₁,w₁,hq,harr⟩:=(round x hI).go a w ha hw b (.inLoop c::k) cs
   obtain⟨t',H',ha',hw',hq⟩:=hq
   cases e with
   |normal=>
    obtain⟨y,hy,hlt,hsub,hsat⟩:=hq
    obtain⟨e₂,a₂,w₂,hq₂,harr₂⟩:=ih (μ y) (hn ▸ hlt) y rfl hy a₁ w₁ (ha'.sub hsub) (hsat.sat hw')
    exact⟨e₂,a₂,w₂,hq₂, .of_steps (Steps.trans harr (.one step_inLoop)) harr₂⟩
   |exit id=> exact⟨_,a₁,w₁,⟨t',H',ha',hw',hq⟩, .pass (x:= .inLoop c) rfl (fun _ _=> .inl (aj)) harr⟩
   |goto l=> exact⟨_,a₁,w₁,⟨t',H',ha',hw',hq⟩, .pass (x:= .inLoop c) rfl (fun _ _=> .inl (aj)) harr⟩
   |ret=> exact⟨_,a₁,w₁,⟨t',H',ha',hw',hq⟩, .pass (x:= .inLoop c) rfl (fun _ _=> .inl (aj)) harr⟩
   |panic ch=> exact⟨_,a₁,w₁,⟨t',H',ha',hw',hq⟩, .pass (x:= .inLoop c) rfl (fun _ _=> .inl (aj)) harr⟩
   |outgrown=> exact⟨_,a₁,w₁,⟨t',H',ha',hw',hq⟩, .pass (x:= .inLoop c) rfl (fun _ _=> .inl (aj)) harr⟩
 obtain⟨e,a',w',hq,harr⟩:=key _ x0 rfl h0 a w (ha.sub hs) (hh.sat hw)
 exact⟨e,a',w',hq, .of_steps (.one step_loop) harr⟩
theorem NL {id:Nat}(h:Q .normal t H):xd id Q (.exit id) t H:=by
 show(bif Nat.beq id id then Q .normal t H else Q (.exit id) t H)
 rw[show Nat.beq id id=true from Nat.beq_refl id];exact h
theorem NK {id id':Nat}(hne:Nat.beq id' id=false) (h:Q (.exit id') t H):xd id Q (.exit id') t H:=by
 show(bif Nat.beq id' id then Q .normal t H else Q (.exit id') t H)
 rw[hne];exact h
section
variable {α:Type}{I:α→Prop}{fr:α→Tm}{hp:α→cG}{μ:α→Nat}{x:α}
end
structure SC (G:cM) (P:Program) (f:FuncId) (args:List Value) (H:cG) (K:Value→cG→Prop):Prop where
 enter:∀(a_s:Array Value) w,(callFunc f a_s).run P w= .ok (.enter f a_s) w
 call:∀w,Sat G w H→Calls P f args.toArray w fun e w'=> match e with
  | .returned v=> ∃H',Sat G w' H'∧K v H'
  |_=> False
theorem SC.mono {f:FuncId}{args:List Value}{K K':Value→cG→Prop}(h:SC G P f args H K) (hk:∀v H',K v H'→K' v H'):SC G P f args H K':=
 ⟨h.enter,fun w hw=> (h.call w hw).mono fun e w' he=> by
  cases e with
  |returned v=> obtain⟨H',h1,h2⟩:=he;exact⟨H',h1,hk _ _ h2⟩
  |_=> exact he.elim⟩
theorem SC.heap {f:FuncId}{args:List Value}{K:Value→cG→Prop}{H':cG}(h:SC G P f args H' K) (hs:∀w,Sat G w H→Sat G w H'):SC G P f args H K:=
 ⟨h.enter,fun w hw=> h.call w (hs w hw)⟩
def Ev (G:cM) (P:Program) (o:Oper) (t:Tm) (H:cG) (v:Value):Prop:=
 ∀ρ,zg t ρ→∀w,Sat G w H→(execOp ρ o).run P w= .ok (.value v) w
def mc (G:cM) (P:Program) (R:Value→cG→Prop):Result Next→Prop
 | .ok (.value v) w'=> ∃H',Sat G w' H'∧R v H'
 | .ok .skip w'=> ∃H',Sat G w' H'∧R undef H'
 | .ok (.enter f args) w'=> Calls P f args w' fun e w''=> match e with
  | .returned v=> ∃H',Sat G w'' H'∧R v H'
  |_=> False
 |_=> False
def St (G:cM) (P:Program) (o:Oper) (t:Tm) (H:cG) (R:Value→cG→Prop):Prop:=
 ∀ρ,zg t ρ→∀w,Sat G w H→mc G P R ((execOp ρ o).run P w)
theorem Ev.st {o:Oper}{v:Value}(h:Ev G P o t H v):St G P o t H (fun u H'=> u=v∧H'=H):=
 fun ρ hρ w hw=> by rw[h ρ hρ w hw];exact⟨H,hw,rfl,rfl⟩
theorem mc.wp {o:Oper}{a:Act}{w:World}{R:Value→cG→Prop}{next:Act→World→Prop}(h:mc G P R ((execOp a.eval o).run P w))
 (hn:∀v w' H',Sat G w' H'→R v H'→next (a.put o.dst v) w'):o.wp P a w next (up G N Q):=by
 unfold Oper.wp
 generalize (execOp a.eval o).run P w=r at*
 cases r with
 |ok n w'=>
  cases n <;> simp only[mc]at h <;> simp only[Oper.upon]
  case value v=> obtain⟨H',h1,h2⟩:=h;exact hn _ _ _ h1 h2
  case skip=> obtain⟨H',h1,h2⟩:=h;exact hn _ _ _ h1 h2
  case enter f args=>
   refine h.mono fun e w'' he=> ?_
   cases e with
   |returned v=> obtain⟨H',h1,h2⟩:=he;exact hn _ _ _ h1 h2
   |_=> exact he.elim
 |halt x w'=> simp only[mc]at h
theorem yj {ops:Array Oper}{dst:Option Tmp}{op:Op}{ty:TypeId}{pos:String}{after:Array Edge}{l:List Oper}{R:Value→cG→Prop}
 (h:St G P ⟨dst,op,ty,pos,after,none⟩ t H R) (hd:fX N dst=true) (hk:∀v H',R v H'→O G P N ops l Q (put t dst v) H'):
 O G P N ops (⟨dst,op,ty,pos,after,none⟩::l) Q t H:=by
 refine⟨fun a w ha hw=> ?_⟩
 unfold wpList
 rw[if_pos (c6)]
 exact .inl ((h a.eval ha.agree w hw).wp fun v w' H' hw' hr=> (hk v H' hr).go _ _ (ha.put hd v) hw')
theorem EN {ops:Array Oper}{dst:Option Tmp}{op:Op}{ty:TypeId}{pos:String}{after:Array Edge}{l:List Oper}{v:Value}
 (h:Ev G P ⟨dst,op,ty,pos,after,none⟩ t H v) (hd:fX N dst=true) (hk:O G P N ops l Q (put t dst v) H):
 O G P N ops (⟨dst,op,ty,pos,after,none⟩::l) Q t H:=
 yj h.st hd (fun _ _ ⟨e1,e2⟩=> by rw[e1,e2];exact hk)
theorem mg {ops:Array Oper}{o:Oper}{j d:Nat}{want b:Bool}{a:Act}(ha:Fr N t a) (hg:o.guard=some (j,want)) (hj:(ops[j]?).bind (·.dst)=some d) (hb:look t d=some (.bool b)):
 Region.wanted o (yielded ops a.tmps)=(b==want):=by
 have h1:a.tmps[d]? =some (.bool b):=ha.look _ _ hb
 have h2:yielded ops a.tmps j=some b:=by
  unfold yielded
  rw[hj]
  simp[h1]
 unfold Region.wanted
 rw[hg]
 simp only[h2]
 cases b <;> cases want <;> rfl
theorem tY {ops:Array Oper}{dst:Option Tmp}{op:Op}{ty:TypeId}{pos:String}{after:Array Edge}{l:List Oper}{R:Value→cG→Prop}{j d:Nat}{want b:Bool}
 (hj:(ops[j]?).bind (·.dst)=some d) (hb:look t d=some (.bool b))
 (h:b=want→St G P ⟨dst,op,ty,pos,after,some (j,want)⟩ t H R) (hd:fX N dst=true)
 (hk:b=want→∀v H',R v H'→O G P N ops l Q (put t dst v) H') (hn:b≠want→O G P N ops l Q (put t dst undef) H):
 O G P N ops (⟨dst,op,ty,pos,after,some (j,want)⟩::l) Q t H:=by
 refine⟨fun a w ha hw=> ?_⟩
 unfold wpList
 rw[mg (o:=⟨dst,op,ty,pos,after,some (j,want)⟩) ha rfl hj hb]
 by_cases e:b=want
 ·rw[if_pos (by simp[e])]
  exact .inl ((h e a.eval ha.agree w hw).wp fun v w' H' hw' hr=> (hk e v H' hr).go _ _ (ha.put hd v) hw')
 ·rw[if_neg (by simp[e])]
  exact(hn e).go _ _ (ha.put hd undef) hw
theorem qu {t:Tm}{ρ:Operand→Value}(hρ:zg t ρ):∀{xs:List Operand}{vs:List Value},uB t xs=some vs→xs.map ρ=vs
 | [],_,h=> by cases h;rfl
 |x::xs,vs,h=> by
  simp only[uB]at h
  split at h
  ·rename_i v us h1 h2
   cases h
   rw[List.map_cons,hρ x v h1,qu hρ h2]
  ·cases h
theorem dm {dst:Option Tmp}{f:FuncId}{xs:List Operand}{ats:Array TypeId}{ty:TypeId}{pos:String}{after:Array Edge}{g:Option (Nat×Bool)}{vs:List Value}{K:Value→cG→Prop}
 (hx:uB t xs=some vs) (hc:SC G P f vs H K):St G P ⟨dst, .call ⟨.value (.func f),xs.toArray,ats⟩,ty,pos,after,g⟩ t H K:=by
 intro ρ hρ w hw
 have h1:ρ (.func f)= .func (.func f) #[] #[]:=hρ _ _ rfl
 have h2:xs.toArray.map ρ=vs.toArray:=by rw[List.map_toArray,qu hρ hx]
 have:(execOp ρ ⟨dst, .call ⟨.value (.func f),xs.toArray,ats⟩,ty,pos,after,g⟩).run P w= .ok (.enter f vs.toArray) w:=by
  simp only[execOp,resolve,h1,h2,Deferred.ofValue,Sem.run_bind,Sem.run_pure,Result.andThen_ok]
  simp only[invoke,Array.append_empty,Array.empty_append]
  exact hc.enter _ _
 rw[this]
 exact hc.call w hw
def sq:Nat→List Value→Tm
 |_, []=> []
 |k,v::vs=> (k,v)::sq (k+1) vs
theorem uf:∀(args:List Value) (k n:Nat) (v:Value),look (sq k args) n=some v→k≤n∧args[n - k]? =some v:=by
 intro args
 induction args with
 |nil=> intro k n v h;cases h
 |cons a a_s ih=>
  intro k n v h
  simp only[sq,look]at h
  cases hb:Nat.beq k n with
  |true=>
   obtain rfl:=Nat.eq_of_beq_eq_true hb
   rw[hb]at h
   simp at h
   exact⟨Nat.le_refl _,by simp[h]⟩
  |false=>
   rw[hb]at h
   obtain⟨h1,h2⟩:=ih (k+1) n v h
   refine⟨a8,?_⟩
   rw[show n - k=(n - (k+1))+1 from a8,Xc]
   exact h2
def Gt (P:Program) (fn:Func) (K:Value→cG→Prop):fY:=fun e t H=> (e= .normal∨e= .ret)∧∃v,K v H∧∀G N a w,Fr N t a→Sat G w H→(results fn a.tmps).run P w= .ok v w
theorem DQ {f:FuncId}{fn:Func}{c:Code}{args:List Value}{K:Value→cG→Prop}(hf:P.funcs[f]? =some fn) (hb:fn.body=some c) (hn:(fn.name== "runtime.NumGoroutine")=false)
 (t0:Tm) (ht:∀n v,look t0 n=some v→args[n]? =some v) (hle:args.length≤fn.ntmps)
 (h:W G P fn.ntmps c (Gt P fn K) t0 H):SC G P f args H K:=by
 refine⟨fun a_s w=> ?_,fun w hw=> ?_⟩
 ·have hn':¬fn.name= "runtime.NumGoroutine" :=by simpa using hn
  simp[callFunc,hf,hb,hn']
 ·refine calls_of_wp hf hb (wp_mono (h.go _ w ?_ hw) ?_)
  ·refine⟨au,rfl,fun n v hv=> ?_⟩
   have:=ht n v hv
   have hlt:n<args.length:=(Yk.1 this).1
   rw[Array.getElem?_append_left (by simpa using hlt)]
   simpa using this
  ·intro e a' w' hu
   obtain⟨t',H',ha',hw',he,v,hv,hr⟩:=hu
   rcases he with rfl|rfl
   ·exact⟨ha'.defers,v,hr _ _ _ _ ha' hw',H',hw',hv⟩
   ·exact⟨ha'.defers,v,hr _ _ _ _ ha' hw',H',hw',hv⟩
theorem MI {f:FuncId}{fn:Func}{c:Code}{args:List Value}{K:Value→cG→Prop}{N:Nat}(hf:P.funcs[f]? =some fn) (hb:fn.body=some c) (hN:fn.ntmps=N) (hn:(fn.name== "runtime.NumGoroutine")=false)
 (hle:args.length≤N) (h:W G P N c (Gt P fn K) (sq 0 args) H):SC G P f args H K:=by
 subst hN
 exact DQ hf hb hn (sq 0 args) (fun n v hv=> (uf args 0 n v hv).2) hle h
end
end Go.Sx
