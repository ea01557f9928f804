import Derived.Still
import Derived.Test.YtefgpomabdplbaaGreatDoorQ3
import Derived.Laws.BytesString
set_option linter.unusedVariables false
set_option linter.unusedSimpArgs false
set_option linter.unusedSectionVars false
set_option linter.unnecessarySimpa false
set_option maxHeartbeats 0
namespace Go.Sx
open Go
section
variable (G:cK) (P:Program) (ops:Array Oper)
def mc (o:Oper) (a:Act) (K:Act→cG→Prop):Result Next→Prop
 | .ok (.value v) w'=> ∃H',Sat G w' H'∧K (a.put o.dst v) H'
 | .ok .skip w'=> ∃H',Sat G w' H'∧K (a.put o.dst undef) H'
 | .ok (.enter f args) w'=> Calls P f args w' fun e w''=> match e with
  | .returned v=> ∃H',Sat G w'' H'∧K (a.put o.dst v) H'
  |_=> False
 |_=> False
def OpK (i:Nat) (K:Act→cG→Prop) (a:Act) (H:cG):Prop:=
 match ops[i]? with
 |none=> K a H
 |some o=> if Region.wanted o (yielded ops a.tmps)then ∀w,Sat G w H→mc G P o a K ((execOp a.eval o).run P w)else K (a.put o.dst undef) H
def rj (loud:Nat→Bool) (i:Nat) (listed:Array Bool):Prop:=
 ∀(j:Nat) (oj:Oper),ops[j]? =some oj→loud j=true→listed.getD j false=true→∀e∈oj.after,Region.binds .any e=true→e.on≠i
def oI (loud:Nat→Bool) (F:Nat→cG→Prop) (K:Act→cG→Prop):Nat→Array Bool→Act→cG→Prop
 | 0,listed,a,H=> (∀i,rj ops loud i listed→F i H)∧Region.ready .any ops listed= []∧K a H
 |fuel+1,listed,a,H=> (∀i,rj ops loud i listed→F i H)∧(Region.ready .any ops listed= []→K a H)∧
  ∀i∈Region.ready .any ops listed,OpK G P ops i (oI loud F K fuel (listed.setIfInBounds i true)) a H
def HR (o:Oper) (a:Act) (H:cG) (v:Value):Prop:=
 ∀w,Sat G w H→match (execOp a.eval o).run P w with
  | .ok (.value u) w'=> u=v∧Sat G w' H
  | .ok .skip w'=> undef=v∧Sat G w' H
  | .ok (.enter f args) w'=> Calls P f args w' fun e w''=> match e with
   | .returned u=> u=v∧Sat G w'' H
   |_=> False
  |_=> False
def n7 (F:cG→Prop) (o:Oper) (a:Act) (v:Value):Prop:=
 (Region.wanted o (yielded ops a.tmps)=true∧∀H,F H→HR G P o a H v)∨(Region.wanted o (yielded ops a.tmps)=false∧v=undef)
end
section
variable {G:cK}{P:Program}{ops:Array Oper}{loud:Nat→Bool}{F:Nat→cG→Prop}{K:Act→cG→Prop}
theorem mc.mono {o:Oper}{a:Act}{K K':Act→cG→Prop}(h:∀a H,K a H→K' a H) {r:Result Next}(hr:mc G P o a K r):mc G P o a K' r:=by
 cases r with
 |ok n w'=>
  cases n <;> simp only[mc]at hr⊢
  case value v=> obtain⟨H',h1,h2⟩:=hr;exact⟨H',h1,h _ _ h2⟩
  case skip=> obtain⟨H',h1,h2⟩:=hr;exact⟨H',h1,h _ _ h2⟩
  case enter f args=>
   exact hr.mono fun e w'' he=> by
    cases e with
    |returned v=> obtain⟨H',h1,h2⟩:=he;exact⟨H',h1,h _ _ h2⟩
    |_=> exact he
 |halt x w'=> simp only[mc]at hr
theorem OpK.mono {i:Nat}{a:Act}{H:cG}{K K':Act→cG→Prop}(h:∀a H,K a H→K' a H) (hh:OpK G P ops i K a H):OpK G P ops i K' a H:=by
 unfold OpK at*
 split
 ·exact h _ _ (by simpa [*] using hh)
 ·rename_i o ho
  simp only[ho]at hh
  split
  ·rename_i hw;simp only[hw,if_true]at hh;exact fun w hs=> (hh w hs).mono h
  ·rename_i hw;simp only[hw]at hh;exact h _ _ hh
theorem OpK.wpOp {i:Nat}{a:Act}{H:cG}{w:World}{K':Act→World→Prop}{Q':Exit→Act→World→Prop}(hw:Sat G w H) (h:∀a w' H',Sat G w' H'→K a H'→K' a w') (hh:OpK G P ops i K a H):wpOp P ops Q' i K' a w:=by
 unfold OpK at hh
 unfold Go.wpOp
 split
 ·rename_i ho;simp only[ho]at hh;exact h _ _ _ hw hh
 ·rename_i o ho
  simp only[ho]at hh
  split
  ·rename_i hwt
   simp only[hwt,if_true]at hh
   have h3:=hh w hw
   refine .inl ?_
   unfold Oper.wp
   generalize (execOp a.eval o).run P w=r at*
   cases r with
   |ok n w'=>
    cases n <;> simp only[mc]at h3 <;> simp only[Oper.upon]
    case value v=> obtain⟨H',h1,h2⟩:=h3;exact h _ _ _ h1 h2
    case skip=> obtain⟨H',h1,h2⟩:=h3;exact h _ _ _ h1 h2
    case enter f args=>
     exact h3.mono fun e w'' he=> by
      cases e with
      |returned v=> obtain⟨H',h1,h2⟩:=he;exact h _ _ _ h1 h2
      |_=> exact he.elim
   |halt x w'=> simp only[mc]at h3
  ·rename_i hwt
   simp only[hwt]at hh
   exact h _ _ _ hw hh
theorem uI {Q':Exit→Act→World→Prop}(hQ:∀a w H,Sat G w H→K a H→Q' .normal a w):∀(fuel:Nat) (listed:Array Bool) (a:Act) (w:World) (H:cG),Sat G w H→
 oI G P ops loud F K fuel listed a H→wpAny P .any ops Q' fuel listed a w
 | 0,_,_,_,_,hw,h=> ⟨h.2.1,hQ _ _ _ hw h.2.2⟩
 |fuel+1,_,_,_,_,hw,h=> ⟨fun h0=> hQ _ _ _ hw (h.2.1 h0),fun i hi=> (h.2.2 i hi).wpOp hw (fun a' w' H' hw' h'=> uI hQ fuel _ a' w' H' hw' h')⟩
theorem rj.of_set {i k:Nat}{listed:Array Bool}(hl:loud i=false) (h:rj ops loud k listed):rj ops loud k (listed.setIfInBounds i true):=by
 intro j oj hj hlj hlist
 by_cases hij:i=j
 ·subst hij;rw[hl]at hlj;cases hlj
 ·rw[getD_set_ne false hij]at hlist;exact h j oj hj hlj hlist
theorem n7.opK {i:Nat}{o:Oper}{v:Value}{a:Act}{H:cG}{F:cG→Prop}(hi:ops[i]? =some o) (hy:n7 G P ops F o a v) (hF:F H) (h:K (a.put o.dst v) H):OpK G P ops i K a H:=by
 unfold Go.Sx.OpK
 simp only[hi]
 rcases hy with⟨hw,hv⟩|⟨hw,rfl⟩
 ·simp only[hw,if_true]
  intro w hs
  have h3:=hv H hF w hs
  generalize (execOp a.eval o).run P w=r at*
  cases r with
  |ok n w'=>
   cases n <;> simp only at h3
   case value u=> obtain⟨rfl,h4⟩:=h3;exact⟨H,h4,h⟩
   case skip=> obtain⟨rfl,h4⟩:=h3;exact⟨H,h4,h⟩
   case enter f args=>
    exact h3.mono fun e w'' he=> by
     cases e with
     |returned u=> obtain⟨rfl,h4⟩:=he;exact⟨H,h4,h⟩
     |_=> exact he
  |halt x w'=> exact h3.elim
 ·simp only[hw,Bool.false_eq_true,if_false];exact h
theorem OpK.put {j:Nat}{oi oj:Oper}{v:Value}{F:cG→Prop}(hj:ops[j]? =some oj) (hap:oi.apart ops oj=true)
 (hsi:∀cs b,oi.op≠ .select cs b) (hsj:∀cs b,oj.op≠ .select cs b) {K:Act→cG→Prop}{a:Act}{H:cG}
 (hy:n7 G P ops F oi a v) (h:OpK G P ops j K (a.put oi.dst v) H):
 OpK G P ops j (fun a' H'=> n7 G P ops F oi a' v∧K (a'.put oi.dst v) H') a H:=by
 obtain⟨h1,h2,h3⟩:=Oper.apart_spec hap
 have keep:∀(a:Act),n7 G P ops F oi a v→∀u,n7 G P ops F oi (a.put oj.dst u) v:=fun a hy u=> by
  unfold n7 HR at*
  rw[execOp_put oi hsi a oj.dst u h3,wanted_put oi a oj.dst u h3]
  exact hy
 unfold OpK at*
 simp only[hj]at*
 rw[wanted_put oj a oi.dst v h1]at h
 split
 ·rename_i hw
  simp only[hw,if_true]at h
  intro w hs
  have h4:=h w hs
  rw[execOp_put oj hsj a oi.dst v h1]at h4
  generalize (execOp a.eval oj).run P w=r at*
  cases r with
  |ok n w'=>
   cases n <;> simp only[mc]at h4⊢
   case value u=> obtain⟨H',q1,q2⟩:=h4;exact⟨H',q1,keep a hy u,by rw[←Act.put_comm a v u h2];exact q2⟩
   case skip=> obtain⟨H',q1,q2⟩:=h4;exact⟨H',q1,keep a hy _,by rw[←Act.put_comm a v undef h2];exact q2⟩
   case enter f args=>
    exact h4.mono fun e w'' he=> by
     cases e with
     |returned u=> obtain⟨H',q1,q2⟩:=he;exact⟨H',q1,keep a hy u,by rw[←Act.put_comm a v u h2];exact q2⟩
     |_=> exact he
  |halt x w'=> simp only[mc]at h4
 ·rename_i hw
  simp only[hw]at h
  exact⟨keep a hy _,by rw[←Act.put_comm a v undef h2];exact h⟩
theorem oI.first {i:Nat}{oi:Oper}{v:Value}(hi:ops[i]? =some oi) (hl:loud i=false) (hsel:∀(j:Nat) (o:Oper) cs b,ops[j]? =some o→o.op≠ .select cs b):
 ∀(fuel:Nat) (listed:Array Bool) (a:Act) (H:cG),
  (∀j oj,ops[j]? =some oj→j≠i→listed.getD j true=false→(∀e∈oj.after,Region.binds .any e=true→e.on≠i)→oi.apart ops oj=true)→
  (∀j oj,ops[j]? =some oj→listed.getD j false=true→∀e∈oj.after,Region.binds .any e=true→e.on≠i)→
  i∈Region.ready .any ops listed→n7 G P ops (F i) oi a v→
  oI G P ops loud F K fuel (listed.setIfInBounds i true) (a.put oi.dst v) H→oI G P ops loud F K (fuel+1) listed a H:=by
 intro fuel
 induction fuel with
 |zero=>
  intro listed a H _ hw hr hy h
  have hF:F i H:=h.1 i (rj.of_set hl fun j oj hj _ hlj=> hw j oj hj hlj)
  refine⟨fun k hk=> h.1 k (hk.of_set hl),fun h0=> (bN),fun j hj=> ?_⟩
  by_cases hji:j=i
  ·subst hji;exact hy.opK hi hF h
  ·have:=ready_mono hj hji
   rw[h.2.1]at this
   cases this
 |succ fuel ih=>
  intro listed a H hfree hw hr hy h
  have hF:F i H:=h.1 i (rj.of_set hl fun j oj hj _ hlj=> hw j oj hj hlj)
  refine⟨fun k hk=> h.1 k (hk.of_set hl),fun h0=> (bN),fun j hj=> ?_⟩
  by_cases hji:j=i
  ·subst hji;exact hy.opK hi hF h
  ·have h1:=h.2.2 j (ready_mono hj hji)
   obtain⟨hjun,oj,hoj,hall⟩:=mem_ready.1 hj
   have hnot:∀e∈oj.after,Region.binds .any e=true→e.on≠i:=fun e he hb heq=> by
    have h1:=hall e he hb
    have h0:=(mem_ready.1 hr).1
    rw[heq]at h1
    rcases Nat.lt_or_ge i listed.size with h'|h'
    ·simp[h']at h0 h1;rw[h0]at h1;cases h1
    ·simp[Array.getElem?_eq_none h']at h1
   have h2:=OpK.put hoj (hfree j oj hoj hji hjun hnot) (fun cs b=> hsel i oi cs b hi) (fun cs b=> hsel j oj cs b hoj) hy h1
   have hfree':∀k ok,ops[k]? =some ok→k≠i→(listed.setIfInBounds j true).getD k true=false→
    (∀e∈ok.after,Region.binds .any e=true→e.on≠i)→oi.apart ops ok=true:=fun k ok hk hki hun hno=> by
    refine hfree k ok hk hki ?_ hno
    by_cases hjk:j=k
    ·subst hjk;exact hjun
    ·rw[getD_set_ne true hjk]at hun;exact hun
   have hw':∀k ok,ops[k]? =some ok→(listed.setIfInBounds j true).getD k false=true→∀e∈ok.after,Region.binds .any e=true→e.on≠i:=fun k ok hk hlk=> by
    by_cases hjk:j=k
    ·subst hjk
     obtain rfl:ok=oj:=Option.some.inj (hk.symm.trans hoj)
     exact hnot
    ·rw[getD_set_ne false hjk]at hlk;exact hw k ok hk hlk
   refine OpK.mono (fun a' H' h3=> ih (listed.setIfInBounds j true) a' H' hfree' hw' (ready_mono hr (Ne.symm hji)) h3.1 ?_) h2
   rw[Array.setIfInBounds_comm _ _ hji]
   exact h3.2
structure An (G:cK) (P:Program) (N:Nat) (ops:Array Oper) (loud:Nat→Bool) (F:Nat→cG→Prop) (Q:Post) (fuel:Nat) (listed:Array Bool) (t:Tm) (H:cG):Prop where
 go:∀a,Fr N t a→oI G P ops loud F (fun a H=> ∃t,Fr N t a∧Q .normal t H) fuel listed a H
def Cv (ops:Array Oper) (listed:Array Bool) (i:Nat):Bool:=
 (List.range ops.size).all fun j=> !listed.getD j false ||match ops[j]? with
   |some oj=> oj.after.all fun e=> !(Region.binds .any e && e.on==i)
   |none=> true
theorem xa {listed:Array Bool}{i:Nat}(h:Cv ops listed i=true):∀j oj,ops[j]? =some oj→listed.getD j false=true→∀e∈oj.after,Region.binds .any e=true→e.on≠i:=by
 intro j oj hj hl e he hb heq
 have hlt:j<ops.size:=(Array.getElem?_eq_some_iff.1 hj).1
 have h1:=List.all_eq_true.1 h j (List.mem_range.2 hlt)
 simp only[hl,Bool.not_true,Bool.false_or,hj]at h1
 have h2:=Array.all_eq_true'.1 h1 e he
 simp[hb,heq]at h2
variable {N:Nat}{Q:Post}{t:Tm}{H:cG}
theorem df {id:Nat}{l:List Oper}(hm:P.follows .mixedOrders=true) (loud:Nat→Bool) (F:Nat→cG→Prop) (h:An G P N l.toArray loud F Q l.length (Array.replicate l.length false) t H):W G P N (.region id l.toArray true) Q t H:=
 ⟨fun a w ha hw=> wp_region_any hm (uI (G:=G) (loud:=loud) (F:=F) (K:=fun a H=> ∃t,Fr N t a∧Q .normal t H) (fun a w H hw ⟨t,h1,h2⟩=> ⟨t,H,h1,hw,h2⟩) _ _ _ _ H (hw.same rfl ⟨hw.1.os,hw.1.tape,hw.1.output⟩) (by simpa using h.go a ha))⟩
theorem db {listed:Array Bool}(hr:(Region.ready .any ops listed).isEmpty=true) (hF:∀i,rj ops loud i listed→F i H) (h:Q .normal t H):An G P N ops loud F Q 0 listed t H:=
 ⟨fun _ ha=> ⟨hF,by simpa using hr,t,ha,h⟩⟩
def Qv (G:cK) (P:Program) (F:cG→Prop) (o:Oper) (t:Tm) (v:Value):Prop:=∀H,F H→St G P o t H (fun u H'=> u=v∧H'=H)
theorem cD {F:cG→Prop}{o:Oper}{v:Value}(h:∀H,F H→Ev G P o t H v):Qv G P F o t v:=fun H hF=> (h H hF).st
theorem Qv.quiet {F:cG→Prop}{o:Oper}{v:Value}{a:Act}(ha:Fr N t a) (h:Qv G P F o t v) {H:cG}(hF:F H):HR G P o a H v:=by
 intro w hw
 have h1:=h H hF a.eval ha.agree w hw
 generalize (execOp a.eval o).run P w=r at*
 cases r with
 |ok n w'=>
  cases n <;> simp only[lA]at h1⊢
  case value u=> obtain⟨H',q1,rfl,rfl⟩:=h1;exact⟨rfl,q1⟩
  case skip=> obtain⟨H',q1,rfl,rfl⟩:=h1;exact⟨rfl,q1⟩
  case enter f args=>
   exact h1.mono fun e w'' he=> by
    cases e with
    |returned u=> obtain⟨H',q1,rfl,rfl⟩:=he;exact⟨rfl,q1⟩
    |_=> exact he
 |halt x w'=> simp only[lA]at h1
def jr (ops:Array Oper) (listed:Array Bool) (i:Nat):Bool:=
 Region.noSelect ops && Region.free .any ops listed i && Cv ops listed i && (Region.ready .any ops listed).contains i
theorem qu {loud:Nat→Bool}{F:Nat→cG→Prop}{fuel:Nat}{listed:Array Bool}{i:Nat}{o:Oper}{v:Value}(hi:ops[i]? =some o) (hl:loud i=false) (hb:jr ops listed i=true) (hd:fH N o.dst=true)
 (hy:∀a,Fr N t a→n7 G P ops (F i) o a v) (h:An G P N ops loud F Q fuel (listed.setIfInBounds i true) (put t o.dst v) H):An G P N ops loud F Q (fuel+1) listed t H:=by
 simp only[jr,Bool.and_eq_true]at hb
 obtain⟨⟨⟨h1,h2⟩,h3⟩,h4⟩:=hb
 exact⟨fun a ha=> oI.first hi hl (Region.noSelect_spec h1) fuel listed a H (Region.free_spec hi h2) (xa h3) (by simpa using h4) (hy a ha) (h.go _ (ha.put hd v))⟩
theorem cE {loud:Nat→Bool}{F:Nat→cG→Prop}{fuel:Nat}{listed:Array Bool}{dst:Option Tmp}{op:Op}{ty:TypeId}{pos:String}{after:Array Edge}{v:Value}(i:Nat) (hi:ops[i]? =some ⟨dst,op,ty,pos,after,none⟩) (hl:loud i=false) (hb:jr ops listed i=true) (hd:fH N dst=true)
 (hq:Qv G P (F i) ⟨dst,op,ty,pos,after,none⟩ t v) (h:An G P N ops loud F Q fuel (listed.setIfInBounds i true) (put t dst v) H):An G P N ops loud F Q (fuel+1) listed t H:=
 qu hi hl hb hd (fun _ ha=> .inl ⟨cg,fun _ hF=> hq.quiet ha hF⟩) h
theorem ld {loud:Nat→Bool}{F:Nat→cG→Prop}{fuel:Nat}{listed:Array Bool}{dst:Option Tmp}{op:Op}{ty:TypeId}{pos:String}{after:Array Edge}{v:Value}{j d:Nat}{want:Bool}(i:Nat) (hi:ops[i]? =some ⟨dst,op,ty,pos,after,some (j,want)⟩) (hj:(ops[j]?).bind (·.dst)=some d) (hv:look t d=some (.bool want)) (hl:loud i=false) (hb:jr ops listed i=true) (hd:fH N dst=true)
 (hq:Qv G P (F i) ⟨dst,op,ty,pos,after,some (j,want)⟩ t v) (h:An G P N ops loud F Q fuel (listed.setIfInBounds i true) (put t dst v) H):An G P N ops loud F Q (fuel+1) listed t H:=
 qu hi hl hb hd (fun _ ha=> .inl ⟨cy,fun _ hF=> hq.quiet ha hF⟩) h
theorem NF {loud:Nat→Bool}{F:Nat→cG→Prop}{fuel:Nat}{listed:Array Bool}{dst:Option Tmp}{op:Op}{ty:TypeId}{pos:String}{after:Array Edge}{j d:Nat}{want:Bool}(i:Nat) (hi:ops[i]? =some ⟨dst,op,ty,pos,after,some (j,want)⟩) (hj:(ops[j]?).bind (·.dst)=some d) (hv:look t d=some (.bool !want)) (hl:loud i=false) (hb:jr ops listed i=true) (hd:fH N dst=true)
 (h:An G P N ops loud F Q fuel (listed.setIfInBounds i true) (put t dst undef) H):An G P N ops loud F Q (fuel+1) listed t H:=
 qu hi hl hb hd (fun _ ha=> .inr ⟨cy,rfl⟩) h
theorem gq {loud:Nat→Bool}{F:Nat→cG→Prop}{fuel:Nat}{listed:Array Bool}{dst:Option Tmp}{op:Op}{ty:TypeId}{pos:String}{after:Array Edge}{b:Bool}(i:Nat) (hi:ops[i]? =some ⟨dst,op,ty,pos,after,none⟩) (hl:loud i=false) (hb:jr ops listed i=true) (hd:fH N dst=true)
 (hq:Qv G P (F i) ⟨dst,op,ty,pos,after,none⟩ t (.bool b)) (h1:b=true→An G P N ops loud F Q fuel (listed.setIfInBounds i true) (put t dst (.bool true)) H) (h2:b=false→An G P N ops loud F Q fuel (listed.setIfInBounds i true) (put t dst (.bool false)) H):An G P N ops loud F Q (fuel+1) listed t H:=
 cE i hi hl hb hd hq (bJ)
theorem cN {loud:Nat→Bool}{F:Nat→cG→Prop}{fuel:Nat}{listed:Array Bool}{dst:Option Tmp}{op:Op}{ty:TypeId}{pos:String}{after:Array Edge}{R:Value→cG→Prop}(i:Nat) (hi:ops[i]? =some ⟨dst,op,ty,pos,after,none⟩) (hr:Region.ready .any ops listed= [i]) (hd:fH N dst=true)
 (hF:∀i,rj ops loud i listed→F i H) (hs:St G P ⟨dst,op,ty,pos,after,none⟩ t H R) (h:∀v H',R v H'→An G P N ops loud F Q fuel (listed.setIfInBounds i true) (put t dst v) H'):An G P N ops loud F Q (fuel+1) listed t H:=
 ⟨fun a ha=> ⟨hF,fun h0=> (bN),fun j hj=> by
  rw[hr]at hj
  obtain rfl:j=i:=by simpa using hj
  unfold OpK
  simp only[hi]
  rw[if_pos (cg)]
  intro w hw
  have h1:=hs a.eval ha.agree w hw
  generalize (execOp a.eval _).run P w=r at*
  cases r with
  |ok n w'=>
   cases n <;> simp only[lA]at h1 <;> simp only[mc]
   case value u=> obtain⟨H',q1,q2⟩:=h1;exact⟨H',q1,(h u H' q2).go _ (ha.put hd u)⟩
   case skip=> obtain⟨H',q1,q2⟩:=h1;exact⟨H',q1,(h _ H' q2).go _ (ha.put hd _)⟩
   case enter f args=>
    exact h1.mono fun e w'' he=> by
     cases e with
     |returned u=> obtain⟨H',q1,q2⟩:=he;exact⟨H',q1,(h u H' q2).go _ (ha.put hd u)⟩
     |_=> exact he
  |halt x w'=> simp only[lA]at h1⟩⟩
theorem HG {loud:Nat→Bool}{F:Nat→cG→Prop}{fuel:Nat}{listed:Array Bool}{dst dst2:Option Tmp}{op op2:Op}{ty ty2:TypeId}{pos pos2:String}{after after2:Array Edge}{R R2:Value→cG→Prop}(i j:Nat) (hi:ops[i]? =some ⟨dst,op,ty,pos,after,none⟩) (hj:ops[j]? =some ⟨dst2,op2,ty2,pos2,after2,none⟩) (hr:Region.ready .any ops listed= [i,j]) (hd:fH N dst=true) (hd2:fH N dst2=true)
 (hF:∀i,rj ops loud i listed→F i H) (hs:St G P ⟨dst,op,ty,pos,after,none⟩ t H R) (hs2:St G P ⟨dst2,op2,ty2,pos2,after2,none⟩ t H R2) (h:∀v H',R v H'→An G P N ops loud F Q fuel (listed.setIfInBounds i true) (put t dst v) H') (h2:∀v H',R2 v H'→An G P N ops loud F Q fuel (listed.setIfInBounds j true) (put t dst2 v) H'):An G P N ops loud F Q (fuel+1) listed t H:=
 ⟨fun a ha=> ⟨hF,fun h0=> (bN),fun k hk=> by
  rw[hr]at hk
  have key:∀(m:Nat) (dst:Option Tmp) (op:Op) (ty:TypeId) (pos:String) (after:Array Edge) (R:Value→cG→Prop),ops[m]? =some ⟨dst,op,ty,pos,after,none⟩→fH N dst=true→St G P ⟨dst,op,ty,pos,after,none⟩ t H R→(∀v H',R v H'→An G P N ops loud F Q fuel (listed.setIfInBounds m true) (put t dst v) H')→
   OpK G P ops m (oI G P ops loud F (fun a H=> ∃t,Fr N t a∧Q .normal t H) fuel (listed.setIfInBounds m true)) a H:=by
   intro m dst op ty pos after R hi hd hs h
   unfold OpK
   simp only[hi]
   rw[if_pos (cg)]
   intro w hw
   have h1:=hs a.eval ha.agree w hw
   generalize (execOp a.eval _).run P w=r at*
   cases r with
   |ok n w'=>
    cases n <;> simp only[lA]at h1 <;> simp only[mc]
    case value u=> obtain⟨H',q1,q2⟩:=h1;exact⟨H',q1,(h u H' q2).go _ (ha.put hd u)⟩
    case skip=> obtain⟨H',q1,q2⟩:=h1;exact⟨H',q1,(h _ H' q2).go _ (ha.put hd _)⟩
    case enter f args=>
     exact h1.mono fun e w'' he=> by
      cases e with
      |returned u=> obtain⟨H',q1,q2⟩:=he;exact⟨H',q1,(h u H' q2).go _ (ha.put hd u)⟩
      |_=> exact he
   |halt x w'=> simp only[lA]at h1
  rcases List.mem_cons.1 hk with rfl|hk
  ·exact key _ _ _ _ _ _ _ hi hd hs h
  ·obtain rfl:k=j:=by simpa using hk
   exact key _ _ _ _ _ _ _ hj hd2 hs2 h2⟩⟩
abbrev pL:Nat→Bool:=fun _=> false
abbrev at_ (H:cG):Nat→cG→Prop:=fun _ H'=> H'=H
theorem dz {H:cG}{o:Oper}{v:Value}(h:Ev G P o t H v):Qv G P (fun H'=> H'=H) o t v:=fun _ e=> by rw[e];exact h.st
theorem gQ {H:cG}{dst:Option Tmp}{f:FuncId}{xs:List Operand}{ats:Array TypeId}{ty:TypeId}{pos:String}{after:Array Edge}{g:Option (Nat×Bool)}{vs:List Value}{v:Value}(hx:qj t xs=some vs) (hc:SC G P f vs H (fun u H'=> u=v∧H'=H)):
 Qv G P (fun H'=> H'=H) ⟨dst, .call ⟨.value (.func f),xs.toArray,ats⟩,ty,pos,after,g⟩ t v:=fun _ e=> by rw[e];exact cW hx hc
theorem MH {l:List Oper}{dst:Option Tmp}{op:Op}{ty:TypeId}{pos:String}{after:Array Edge}{j d:Nat}{want:Bool}{R:Value→cG→Prop}(hj:(ops[j]?).bind (·.dst)=some d) (hv:look t d=some (.bool want)) (hd:fH N dst=true)
 (h:St G P ⟨dst,op,ty,pos,after,some (j,want)⟩ t H R) (hk:∀v H',R v H'→O G P N ops l Q (put t dst v) H'):O G P N ops (⟨dst,op,ty,pos,after,some (j,want)⟩::l) Q t H:=
 tI hj hv (fun _=> h) hd (fun _=> hk) (fun h=> absurd rfl h)
theorem sx {l:List Oper}{dst:Option Tmp}{op:Op}{ty:TypeId}{pos:String}{after:Array Edge}{j d:Nat}{want:Bool}{v:Value}(hj:(ops[j]?).bind (·.dst)=some d) (hv:look t d=some (.bool want)) (hd:fH N dst=true)
 (h:Ev G P ⟨dst,op,ty,pos,after,some (j,want)⟩ t H v) (hk:O G P N ops l Q (put t dst v) H):O G P N ops (⟨dst,op,ty,pos,after,some (j,want)⟩::l) Q t H:=
 MH hj hv hd h.st (fun _ _ ⟨e1,e2⟩=> by rw[e1,e2];exact hk)
theorem FU {l:List Oper}{dst:Option Tmp}{op:Op}{ty:TypeId}{pos:String}{after:Array Edge}{j d:Nat}{want:Bool}(hj:(ops[j]?).bind (·.dst)=some d) (hv:look t d=some (.bool !want)) (hd:fH N dst=true)
 (hk:O G P N ops l Q (put t dst undef) H):O G P N ops (⟨dst,op,ty,pos,after,some (j,want)⟩::l) Q t H:=
 tI (R:=fun _ _=> False) hj hv (fun h=> absurd h (by cases want <;> simp)) hd (fun h=> absurd h (by cases want <;> simp)) (fun _=> hk)
theorem Jx {l:List Oper}{dst:Option Tmp}{op:Op}{ty:TypeId}{pos:String}{after:Array Edge}{b:Bool}(h:Ev G P ⟨dst,op,ty,pos,after,none⟩ t H (.bool b)) (hd:fH N dst=true)
 (h1:b=true→O G P N ops l Q (put t dst (.bool true)) H) (h2:b=false→O G P N ops l Q (put t dst (.bool false)) H):O G P N ops (⟨dst,op,ty,pos,after,none⟩::l) Q t H:=
 FX h hd (bJ)
theorem Aq {l:List Oper}{dst:Option Tmp}{op:Op}{ty:TypeId}{pos:String}{after:Array Edge}{b:Bool}{j d:Nat}{want:Bool}(hj:(ops[j]?).bind (·.dst)=some d) (hv:look t d=some (.bool want)) (h:Ev G P ⟨dst,op,ty,pos,after,some (j,want)⟩ t H (.bool b)) (hd:fH N dst=true)
 (h1:b=true→O G P N ops l Q (put t dst (.bool true)) H) (h2:b=false→O G P N ops l Q (put t dst (.bool false)) H):O G P N ops (⟨dst,op,ty,pos,after,some (j,want)⟩::l) Q t H:=
 sx hj hv hd h (bJ)
end
section
variable {G:cK}{P:Program}{N:Nat}{Q:Post}{t:Tm}{H:cG}{dst:Option Tmp}{ty:TypeId}{pos:String}{after:Array Edge}{g:Option (Nat×Bool)}
theorem rT {w:World}{T T2 E:TypeId}{d2:TypeDesc}{v z:Value}{m sz bb:Nat}{cs:List Value}{α:Type}{e:Enc α}{ys:List α} [hT:Und P T (.slice E)] [hT2:Und P T2 d2] [hE:Inf P E sz bb z] (hd2:d2= .string∨∃e2,d2= .slice e2) (hsz:sz=e.sz) (hzc:z.cells.size=sz)
 (hw:Sat G w H) (hg:zM P sz v m cs w) (hcs:cs=e.all ys) (hm:m=ys.length) (hlim:ys.length*bb≤140737488355328) (hlim2:ys.length≤140737488355328):
 ∃(s':SV) (w':World),(Builtin.append_ #[T,T2] ty #[.slice none 0 0,v]).run P w= .ok s'.val w'∧Sat G w' (Row s' e ys::H):=by
 have:=mq (ty:=ty) (T:=T) (T2:=T2) (xs:= []) (ys:=ys) (s:=SV.nil) (e:=e) hd2 hsz hzc (hf:=nx.head (H:=H)) (hw.nilRow e) hg hcs hm (by simpa using hlim) (by simpa using hlim2)
 simp only[Ye]at this
 exact this
theorem yK {w:World}{s2:SV}{α:Type}{e:Enc α}{ys:List α} [hs:Sl H s2 e ys] (hw:Sat G w H):zM P e.sz s2.val ys.length (e.all ys) w:=by
 obtain⟨h1,_,h3⟩:=hs.get hw
 refine⟨by simp[Builtin.lenOf,SV.val,h1],fun d=> ?_⟩
 rcases h3 with⟨rfl,_⟩|⟨b,off,C0,E0,fz,h4,hb,_,h6⟩
 ·rw[Yc,jL,Enc.all_nil]
 ·have:=ea (P:=P) (w:={w with drawn:=d}) (o:=off) hb (e.all ys) h6
  rw[e.all_length]at this
  simp only[Builtin.firstCells,SV.val,h4,this]
def cF (s:ByteArray):List Nat:=s.data.toList.map (·.toNat)
theorem cL (s:ByteArray):(cF s).length=s.size:=by simp[cF]
theorem qe {w:World}(s:ByteArray):zM P eB.sz (.string s) (cF s).length (eB.all (cF s)) w:=by
 refine⟨by simp[Builtin.lenOf,cL],fun d=> ?_⟩
 simp only[Builtin.firstCells,Sem.run_pure,cL,ByteArray.extract_zero_size]
 congr 1
 apply Array.ext'
 simp only[Enc.all,cF,eB,List.flatMap_map,Array.toList_map]
 induction s.data.toList with
 |nil=> rfl
 |cons x xs ih=> simp[ih]
theorem ig {T T2 E E2:TypeId}{x y:Operand}{s2:SV}{sz bb:Nat}{z:Value}{α:Type}{e:Enc α}{ys:List α}(hx:evo t x=some (.slice none 0 0)) (hy:evo t y=some s2.val) [hT:Und P T (.slice E)] [hT2:Und P T2 (.slice E2)] [hE:Inf P E sz bb z] [hs:Sl H s2 e ys]
 (hsz:sz=e.sz) (hzc:z.cells.size=sz) (hlim:ys.length*bb≤140737488355328) (hlim2:ys.length≤140737488355328):
 St G P ⟨dst, .call ⟨.builtin .append, #[x,y], #[T,T2]⟩,ty,pos,after,g⟩ t H (fun u H'=> ∃s':SV,u=s'.val∧H'=Row s' e ys::H):=
 fun ρ hρ w hw=> by
  subst hsz
  obtain⟨s',w',hr,hw'⟩:=rT (ty:=ty) (T:=T) (T2:=T2) (d2:= .slice E2) (P:=P) (E:=E) (.inr ⟨E2,rfl⟩) rfl hzc hw (yK (P:=P) (hs:=hs) hw) rfl rfl hlim hlim2
  have:(execOp ρ ⟨dst, .call ⟨.builtin .append, #[x,y], #[T,T2]⟩,ty,pos,after,g⟩).run P w= .ok (.value s'.val) w':=by
   simp only[execOp,resolve,invoke,builtin,List.map_toArray,List.map_cons,List.map_nil,hρ _ _ hx,hρ _ _ hy,Sem.run_bind,Sem.run_pure,Result.andThen_ok,hr]
  rw[this]
  exact⟨_,hw',s',rfl,rfl⟩
theorem uJ {T T2 E:TypeId}{x y:Operand}{s:SV}{q:ByteArray}{bb:Nat}{z:Value}{xs:List Nat}{C:Hp→cG}(hx:evo t x=some s.val) (hy:evo t y=some (.string q)) [hT:Und P T (.slice E)] [hT2:Und P T2 .string] [hE:Inf P E 1 bb z] [hf:nx H s eB xs C]
 (hzc:z.cells.size=1) (hlim:(xs.length+q.size)*bb≤140737488355328) (hlim2:xs.length+q.size≤140737488355328):
 St G P ⟨dst, .call ⟨.builtin .append, #[x,y], #[T,T2]⟩,ty,pos,after,g⟩ t H (fun u H'=> ∃s':SV,u=s'.val∧H'=C (Row s' eB (xs++cF q))):=
 fun ρ hρ w hw=> by
  obtain⟨s',w',hr,hw'⟩:=mq (ty:=ty) (T:=T) (T2:=T2) (d2:= .string) (P:=P) (E:=E) (ys:=cF q) (.inl rfl) rfl hzc (hf:=hf) hw (qe q) rfl rfl (by rw[cL];exact hlim) (by rw[cL];exact hlim2)
  have:(execOp ρ ⟨dst, .call ⟨.builtin .append, #[x,y], #[T,T2]⟩,ty,pos,after,g⟩).run P w= .ok (.value s'.val) w':=by
   simp only[execOp,resolve,invoke,builtin,List.map_toArray,List.map_cons,List.map_nil,hρ _ _ hx,hρ _ _ hy,Sem.run_bind,Sem.run_pure,Result.andThen_ok,hr]
  rw[this]
  exact⟨_,hw',s',rfl,rfl⟩
theorem uO {α:Type}(e:Enc α) (n:Nat) (x:α):∀j,j<n*e.sz→(e.all (List.replicate n x))[j]? =(e.f x)[j % e.sz]? :=by
 induction n with
 |zero=> intro j h;omega
 |succ n ih=>
  intro j h
  rw[List.replicate_succ,Enc.all_cons]
  by_cases hj:j<e.sz
  ·rw[Yv (by rw[e.len];exact hj),Nat.mod_eq_of_lt hj]
  ·rw[Yu (bt),e.len,ih _ (by rw[Nat.add_mul]at h;omega)]
   rw[←Nat.mod_eq_sub_mod (aa)]
theorem eX {T E:TypeId}{x y:Operand}{bb:Nat}{z:Value}{k k':IntKind}{i j:Int}{α:Type}(e:Enc α) (x0:α) [hT:Und P T (.slice E)] [hE:Inf P E e.sz bb z] (hx:evo t x=some (.int k i)) (hy:evo t y=some (.int k' j)) (n c:Nat) (hi:i=n) (hj:j=c) (hz:z.cells=(e.f x0).toArray) (hnc:n≤c) (hc:bb*c≤281474976710656) (hc2:c≤281474976710656):
 St G P ⟨dst, .makeSlice T x y,ty,pos,after,g⟩ t H (fun u H'=> ∃s:SV,u=s.val∧s.n=n∧s.c=c∧H'=Row s e (List.replicate n x0)::H):=
 fun ρ hρ w hw=> by
  obtain⟨inf,hi1,hi2,hi3,hi4⟩:=hE.out
  have hwc:IntKind.i64.wrap (c:Int)=c:=iq (aa)
  have hwn:IntKind.i64.wrap (n:Int)=n:=iq (aa)
  have hbc:((bb:Int)*(c:Int))=((bb*c:Nat):Int):=an
  have hr:(execOp ρ ⟨dst, .makeSlice T x y,ty,pos,after,g⟩).run P w= .ok (.value (.slice (some ⟨w.heap.size,0,none⟩) n c)) {w with heap:=w.heap.push (.cells ((Array.range (c*e.sz)).map ((if c*e.sz=0 then #[]else(e.f x0).toArray)[· % (if c*e.sz=0 then #[]else(e.f x0).toArray:Array Value).size]!)) E)}:=by
   have h1:¬((c:Int)<0):=aa
   have h2:¬(((bb*c:Nat):Int) > 2 ^ 48):=by
    have:(2:Int) ^ 48=281474976710656:=rfl
    omega
   have h3:¬((n:Int)<0):=aa
   have h4:¬((n:Int) > (c:Int)):=aa
   simp only[execOp,hρ _ _ hx,hρ _ _ hy,Instr.makeSlice,Sem.run_bind,da (T:=T),Result.andThen_ok,asInt,asIntOf,Sem.run_pure,hi,hj,typeInfo,run_program,hi1,hi3,hwc,hwn,hbc]
   simp only[h1,h2,h3,h4,decide_false,Bool.or_self,Bool.false_eq_true,↓reduceIte,Sem.run_bind,run_askRoom,Result.andThen_ok,dQ (T:=E) (s:=e.sz),Int.toNat_natCast]
   by_cases h0:c*e.sz=0
   ·simp only[h0,↓reduceIte,Sem.run_bind,Sem.run_pure,Result.andThen_ok]
    rfl
   ·simp only[h0,↓reduceIte,Sem.run_bind,Sem.run_pure,Result.andThen_ok,jA (T:=E),hz]
    rfl
  rw[hr]
  refine⟨_,hw.newRow e (List.replicate n x0) _ E n c (an) hnc (an) ?_,⟨some ⟨w.heap.size,0,none⟩,n,c⟩,rfl,rfl,rfl,rfl⟩
  intro j v hv
  have hj:=(Yk.1 hv).1
  rw[e.all_length,Xe]at hj
  have hlt:j<c*e.sz:=Nat.lt_of_lt_of_le hj (Nat.mul_le_mul_right _ hnc)
  have h0:c*e.sz≠0:=aa
  rw[uO e n x0 j hj]at hv
  have hm:j % e.sz<(e.f x0).length:=by rw[e.len];exact Nat.mod_lt _ e.pos
  simp only[h0,↓reduceIte,Array.getElem?_map,List.size_toArray,e.len]
  rw[Array.getElem?_range,if_pos hlt]
  simp only[Option.map_some]
  rw[Yi hm]at hv
  rw[←hv]
  congr 1
  simp[hm]
def dL (xs:List Nat):ByteArray:=⟨(xs.map UInt8.ofNat).toArray⟩
theorem fa {xs:List Nat}(h:∀x∈xs,x<256):cF (dL xs)=xs:=by
 simp only[cF,dL,List.map_map]
 refine(List.map_congr_left fun x hx=> ?_).trans (List.map_id xs)
 have:=h x hx
 simp[Nat.mod_eq_of_lt this]
theorem gO (s:ByteArray):dL (cF s)=s:=by
 simp only[cF,dL,List.map_map]
 cases s with
 |mk d=>
  congr 1
  apply Array.ext'
  simp only[]
  refine(List.map_congr_left fun x _=> ?_).trans (List.map_id d.toList)
  simp
theorem kM {s u:ByteArray}:cF s=cF u↔s=u:=⟨fun h=> by rw[←gO s,←gO u,h],fun h=> by rw[h]⟩
theorem k7 (s:ByteArray):∀x∈cF s,x<256:=by
 intro x hx
 obtain⟨y,_,rfl⟩:=List.mem_map.1 hx
 exact y.toNat_lt
theorem fQ (s u:ByteArray):cF (s++u)=cF s++cF u:=by simp[cF,ByteArray.data_append]
theorem jg (xs:List Nat):(dL xs).size=xs.length:=by simp[dL,ByteArray.size]
theorem yL (xs:List Nat):∀acc:ByteArray,(xs.map (fun(n:Nat)=> (n:Int))).foldl (fun r n=> r.push (UInt8.ofNat n.toNat)) acc=⟨acc.data++(xs.map UInt8.ofNat).toArray⟩:=by
 induction xs with
 |nil=> intro acc;simp
 |cons x xs ih=>
  intro acc
  simp only[List.map_cons,List.foldl_cons,Int.toNat_natCast]
  rw[ih]
  congr 1
  apply Array.ext'
  simp[ByteArray.push]
theorem B8 (xs:List Nat):eB.all xs=(xs.map (fun(n:Nat)=> (n:Int))).map (Value.int .u8):=by
 induction xs with
 |nil=> rfl
 |cons x xs ih=> rw[Enc.all_cons,ih];rfl
theorem eN {S D E:TypeId}{x:Operand}{s:SV}{xs:List Nat} [hS:Und P S (.slice E)] [hD:Und P D .string] [hE:Und P E (.int .u8)] (hx:evo t x=some s.val) [hs:Sl H s eB xs]:
 Ev G P ⟨dst, .convert S D x,ty,pos,after,g⟩ t H (.string (dL xs)):=
 fun ρ hρ w hw=> by
  obtain⟨h1,_,h3⟩:=hs.get hw
  rcases h3 with⟨rfl,_⟩|⟨b,off,C0,E0,fz,h4,hb,_,h6⟩
  ·simp only[Yc]at h1
   simp only[execOp,convert,hρ _ _ hx,Sem.run_bind,da (T:=S),da (T:=D),da (T:=E),Result.andThen_ok,SV.val,h1]
   cases h4:s.a with
   |none=>
    simp only[Conv.bytesToString,Sem.run_bind,Sem.run_pure]
    rfl
   |some a=>
    have h8:=run_bytesToString (P:=P) w a 0 s.c [] (by simp[loadCells,loadCellsFrom])
    simp only[h8,Result.andThen_ok,Sem.run_pure]
    rfl
  ·have h7:=ea (P:=P) (o:=off) hb (eB.all xs) h6
   rw[eB.all_length,show eB.sz=1 from rfl,Nat.mul_one,←h1]at h7
   rw[B8]at h7
   have h8:=run_bytesToString (P:=P) w ⟨b,off,none⟩ s.n s.c _ h7
   rw[yL]at h8
   simp only[execOp,convert,hρ _ _ hx,Sem.run_bind,da (T:=S),da (T:=D),da (T:=E),Result.andThen_ok,SV.val,h4,h8,Sem.run_pure]
   congr 4
   apply Array.ext'
   simp
end
end Go.Sx
