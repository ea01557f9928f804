import Derived.ReadAgain
import Derived.ChangeBears
import Derived.ChangeReads
import Derived.WalkKit
import Derived.ProofKit
import Derived.OpenShut
import Derived.Deep.DeepHandedRow
import Derived.Deep.DeepWitnessRowRef
import Derived.Test.YtjhdcheijnegnaaGreatDoorY9
set_option linter.all false
set_option maxHeartbeats 0
namespace Go.Proofs.YtjhdcheijnegnaaGreatDoor
open Go.Sx
open Go Go.ChangeShapes Go.WideShapes Go.ChangeAt Go.RowKit
set_option maxRecDepth 100000
section
variable {W':World}
def oa (W W':World):Prop:=W'.os=W.os∧W'.output=W.output∧∀(i:Nat) (o:Obj),W.heap[i]? =some o→W'.heap[i]? =some o
theorem Dg {f:FuncId}{args:List Value}{W:World}{g:Nat→Nat×Nat}(h:SC (kW W g) Tryz.prog f args [Old W] (λv b=>v=.bool true∧b= [Old W])):
 Calls Tryz.prog f args.toArray W λe W'=>e=.returned (.bool true)∧oa W W':=
 (h.call W (IA (Co W g))).mono λe W' he=>by
   cases e with
   |returned v=>
    obtain⟨b,a,rfl,rfl⟩:=he;exact⟨rfl,a.1.os,a.1.output,λi o c=>F7 a c⟩
   |_=>exact he.elim
theorem oa.keptBut {W:World}(h:oa W W') (a:MemPlace→Prop):W.keptBut W' a:=by
 refine⟨h.1,h.2.1,λi hi=>?_⟩;obtain⟨o,b⟩:∃o,W.heap[i]? =some o:=⟨_,Array.getElem?_eq_getElem hi⟩;rw[b,h.2.2 i o b];cases o with
 |cells c t fr=>exact⟨rfl,rfl,rfl,λ_ _=>rfl⟩
 |map es clock=>exact Or.inr ⟨rfl,rfl⟩
 |_=>rfl
theorem oa.sameAt {W:World}(h:oa W W'){p:MemPlace}(hp:p.block<W.heap.size):W.sameAt W' p:=by
 obtain⟨o,a⟩:∃o,W.heap[p.block]? =some o:=⟨_,Array.getElem?_eq_getElem hp⟩;have h2:=h.2.2 _ _ a;cases p with
 |cell b off=>
  have e:W'.heap[b]? =W.heap[b]? :=h2.trans a.symm;show W'.cell? ⟨b,off,none⟩=W.cell? ⟨b,off,none⟩;simp only[World.cell?,e]
 |map b=>exact h2.trans a.symm
section
variable {H:Type}{enc:TypeId×Value→H}
theorem oq {P:Program}{W:World}{b:Nat}{c:Nat→Bool}{a:Bool}:∀{ts:List TypeId}{vs:List Value}{ds:List (DataW H)}{ps:List MemPlace},DataW.TrodAll enc P W b c a ts vs ds ps→(∀p∈ps,W.sameAt W' p)→DataW.TrodAll enc P W' b c a ts vs ds ps
 | [], [], [],_,h,_=>h
 |_::_,_::_,_::_,_,⟨p,q,⟨n,h1⟩,h2,e⟩,hs=>⟨p,q,⟨n,DataW.trod_carry n _ _ _ h1 λx hx=>hs x (by rw[e];exact Yy _ hx)⟩,oq h2 λx hx=>hs x (by rw[e];exact Yx _ hx),e⟩
theorem FF:laidOutB Tryz.prog=true:=aa
theorem zN:mapsRowed Tryz.prog=true:=aa
theorem xt:∀t e,t<Tryz.prog.types.size→Tryz.prog.underlying t=some (.slice e)→0<Tryz.prog.cellsOf e:=slices_full_of Tryz.prog aa
theorem EX {f:Func}{s:ChangeSpec}{e k d:Bool}{W:World}{args:Array Value}{ds l:List (DataW H)}{i:List MemPlace}(n:DataW.Whole enc Tryz.prog f.params.toList s.vars e W args.toList ds l i) (c:s.vars= []) (hr:f.resultTypes= #[4]) (g:s.fn H (ds++l)={results:= [.lit (.bool true)],args:=ds}) (hT:∀t∈f.params.toList,t<Tryz.prog.types.size) (hk:oa W W'):
 s.post enc Tryz.prog f e k d false W args (.bool true) W':=by
 have j:=n.lt;have m:=n;obtain⟨p,q,hA,r,rfl,hfz,hnd⟩:=n;rw[c]at r;have u:l= []∧q= []:=by
  cases l with
  |nil=>exact⟨rfl,r⟩
  |cons a b=>exact r.elim
 obtain⟨rfl,rfl⟩:=u;rw[Ym]at j g;have hA':=oq (W':=W') hA λx hx=>hk.sameAt (j x hx);refine⟨ds, [],p++ [], [],p, [],m,?_,?_,?_,hk.keptBut _,λh=>aU⟩
 ·rw[Ym,g,hr];exact trodAll_cons_mk (shut_bool Tryz.underlying4 _) trodAll_mk0
 ·rw[Ym,g];exact DataW.TrodAll.respare (T:=(· <Tryz.prog.types.size)) (kids_rows FF zN) xt hT hA' λx hx=>Ys (j x hx)
 ·rw[c,Ym,g];rfl
end
theorem Fp {t:Nat}(h:t<300):t<Tryz.prog.types.size:=by
 have h2:300<Tryz.prog.types.size:=Yt aa;omega
theorem zu {H:Type}{l:List (DataW H)}(hk:Rows.uptoSmall H l=true):Rows.uptoBulkAll l≤1048576:=by
 unfold Rows.uptoSmall at hk;exact Yt hk
end
end Go.Proofs.YtjhdcheijnegnaaGreatDoor
