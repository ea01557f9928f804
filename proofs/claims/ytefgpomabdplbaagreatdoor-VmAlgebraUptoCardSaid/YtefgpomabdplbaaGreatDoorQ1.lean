import Derived.Test.YtefgpomabdplbaaGreatDoorQ0
import Derived.Laws.BitsLemmas
import Derived.Laws.Bits64
set_option linter.unusedVariables false
set_option linter.unusedSimpArgs false
set_option linter.unusedSectionVars false
set_option linter.unnecessarySimpa false
set_option maxHeartbeats 0
namespace Go.Sx
open Go
section
variable (G:cK) (P:Program) (N:Nat)
abbrev Post:=Exit→Tm→cG→Prop
def up (Q:Post):Exit→Act→World→Prop:=fun e a w=> ∃t H,Fr N t a∧Sat G w H∧Q e t H
structure W (c:Code) (Q:Post) (t:Tm) (H:cG):Prop where
 go:∀a w,Fr N t a→Sat G w H→Code.wp P c (up G N Q) a w
structure O (ops:Array Oper) (l:List Oper) (Q:Post) (t:Tm) (H:cG):Prop where
 go:∀a w,Fr N t a→Sat G w H→wpList P ops (up G N Q) l a w
def E6 (y:Code) (Q:Post):Post:=fun e t H=> match e with
 | .normal=> W G P N y Q t H
 |e=> Q e t H
def xl (id:Nat) (Q:Post):Post:=fun e t H=> match e with
 | .exit id'=> bif Nat.beq id' id then Q .normal t H else Q (.exit id') t H
 |e=> Q e t H
end
section
variable {G:cK}{P:Program}{N:Nat}{Q:Post}{t:Tm}{H:cG}
theorem Ie {Q Q':Post}(h:∀e t H,Q e t H→Q' e t H) {e:Exit}{a:Act}{w:World}(hu:up G N Q e a w):up G N Q' e a w:=
 let ⟨t,H,h1,h2,h3⟩:=hu
 ⟨t,H,h1,h2,h _ _ _ h3⟩
theorem Ee (h:Q .normal t H):W G P N .skip Q t H:=⟨fun _ _ ha hw=> wp_skip ⟨t,H,ha,hw,h⟩⟩
theorem Lu {id:Nat}(h:Q (.exit id) t H):W G P N (.exit id) Q t H:=⟨fun _ _ ha hw=> wp_exit ⟨t,H,ha,hw,h⟩⟩
theorem NO (h:Q .ret t H):W G P N .ret Q t H:=⟨fun _ _ ha hw=> wp_ret ⟨t,H,ha,hw,h⟩⟩
theorem xt {x y:Code}(h:W G P N x (E6 G P N y Q) t H):W G P N (.seq x y) Q t H:=
 ⟨fun a w ha hw=> wp_seq (wp_mono (h.go a w ha hw) fun e a' w' hu=> by
  obtain⟨t',H',ha',hw',hq⟩:=hu
  cases e <;> first|exact hq.go a' w' ha' hw'|exact⟨t',H',ha',hw',hq⟩)⟩
theorem I7 {id:Nat}{c:Code}(h:W G P N c (xl id Q) t H):W G P N (.block id c) Q t H:=
 ⟨fun a w ha hw=> wp_block (wp_mono (h.go a w ha hw) fun e a' w' hu=> by
  obtain⟨t',H',ha',hw',hq⟩:=hu
  cases e with
  |exit id'=>
   simp only[xl]at hq
   simp only[Exit.inBlock]
   cases hb:Nat.beq id' id with
   |true=>
    rw[hb]at hq
    rw[if_pos (Nat.eq_of_beq_eq_true hb)]
    exact⟨t',H',ha',hw',hq⟩
   |false=>
    rw[hb]at hq
    rw[if_neg (fun e=> by rw[e]at hb;exact absurd (Nat.beq_refl id) (by rw[hb];simp))]
    exact⟨t',H',ha',hw',hq⟩
  |_=> exact⟨t',H',ha',hw',hq⟩)⟩
theorem I6 {c:Operand}{x y:Code}{b:Bool}(hc:evo t c=some (.bool b)) (ht:b=true→W G P N x Q t H) (hf:b=false→W G P N y Q t H):W G P N (.cond c x y) Q t H:=
 ⟨fun a w ha hw=> wp_cond (t:=b) (ha.agree c _ hc) (by
  cases b with
  |true=> exact(ht rfl).go a w ha hw
  |false=> exact(hf rfl).go a w ha hw)⟩
theorem CF {c:Operand}{x y:Code}(hc:evo t c=some (.bool true)) (ht:W G P N x Q t H):W G P N (.cond c x y) Q t H:=
 I6 hc (fun _=> ht) (fun h=> aW)
theorem zU {c:Operand}{x y:Code}(hc:evo t c=some (.bool false)) (ht:W G P N y Q t H):W G P N (.cond c x y) Q t H:=
 I6 hc (fun h=> aW) (fun _=> ht)
theorem Ef {id:Nat}{l:List Oper}(h:O G P N l.toArray l Q t H):W G P N (.region id l.toArray false) Q t H:=
 ⟨fun a w ha hw=> wp_region_lit (h.go a w ha hw)⟩
theorem FW {ops:Array Oper}(h:Q .normal t H):O G P N ops [] Q t H:=⟨fun _ _ ha hw=> wpList_nil ⟨t,H,ha,hw,h⟩⟩
theorem Ed {c:Code}{t':Tm}(hs:Sub t' t) (h:W G P N c Q t' H):W G P N c Q t H:=⟨fun a w ha hw=> h.go a w (ha.sub hs) hw⟩
theorem zS {c:Code}{Q':Post}(h:W G P N c Q' t H) (hq:∀e t H,Q' e t H→Q e t H):W G P N c Q t H:=⟨fun a w ha hw=> wp_mono (h.go a w ha hw) fun _ _ _ hu=> Ie hq hu⟩
def cJ (H H':cG):Prop:=∀L,Sep H L→∃L' M,Sep H' L'∧(L'++M).Perm L
theorem cJ.refl {H:cG}:cJ H H:=fun L h=> ⟨L, [],h,an⟩
theorem cJ.trans {H H' H'':cG}(h:cJ H H') (h':cJ H' H''):cJ H H'':=fun L hL=>
 let ⟨L',M,h1,h2⟩:=h L hL
 let ⟨L'',M',h3,h4⟩:=h' L' h1
 ⟨L'',M'++M,h3,by rw[←Yf];exact(h4.append_right M).trans h2⟩
theorem cJ.drop {A:Hp}{H H':cG}(h:cJ H H'):cJ (A::H) H':=fun L hL=> by
 obtain⟨L1,L2,rfl,_,h2⟩:=hL
 obtain⟨L',M,h3,h4⟩:=h L2 h2
 exact⟨L',M++L1,h3,by rw[←Yf];exact(h4.append_right L1).trans List.perm_append_comm⟩
theorem cJ.imp {A B:Hp}{H H':cG}(hab:∀L,A L→B L) (h:cJ H H'):cJ (A::H) (B::H'):=fun L hL=> by
 obtain⟨L1,L2,rfl,h1,h2⟩:=hL
 obtain⟨L',M,h3,h4⟩:=h L2 h2
 exact⟨L1++L',M,⟨L1,L',rfl,hab _ h1,h3⟩,by rw[Yf];exact h4.append_left L1⟩
theorem cJ.keep {A:Hp}{H H':cG}(h:cJ H H'):cJ (A::H) (A::H'):=cJ.imp (fun _ h=> h) h
theorem cJ.add {A:Hp}{H H':cG}(hA:A []) (h:cJ H H'):cJ H (A::H'):=fun L hL=> by
 obtain⟨L',M,h3,h4⟩:=h L hL
 exact⟨L',M,⟨[],L',rfl,hA,h3⟩,h4⟩
theorem cJ.sat {H H':cG}(h:cJ H H') {w:World}(hw:Sat G w H):Sat G w H':=by
 obtain⟨hs,L,hL,hl⟩:=hw
 obtain⟨L',M,h1,h2⟩:=h L hL
 refine⟨hs,L',h1,?_,fun x hx=> hl.at_ x (h2.mem_iff.1 (Yy M hx))⟩
 have h3:=((h2.map (·.1)).nodup_iff).2 hl.nodup
 rw[List.map_append]at h3
 exact(List.nodup_append.1 h3).1
def w5 {α:Type}(I:α→Prop) (fr:α→Tm) (hp:α→cG) (μ:α→Nat) (x:α) (Q:Post):Post:=fun e t H=> match e with
 | .normal=> ∃y,I y∧μ y<μ x∧Sub (fr y) t∧cJ H (hp y)
 |e=> Q e t H
theorem Eg {c:Code}(α:Type) (I:α→Prop) (fr:α→Tm) (hp:α→cG) (μ:α→Nat) (x0:α) (h0:I x0) (hs:Sub (fr x0) t) (hh:cJ H (hp x0))
 (round:∀x,I x→W G P N c (w5 I fr hp μ x Q) (fr x) (hp x)):W G P N (.loop c) Q t H:=by
 refine⟨fun a w ha hw=> ?_⟩
 intro b k cs
 have key:∀n x,μ x=n→I x→∀a w,Fr N (fr x) a→Sat G w (hp x)→
  ∃e a' w',up G N Q e a' w'∧Arrives P (lone (b.at a (.code c:: .inLoop c::k)) cs w) b k cs e a' w':=by
  intro n
  induction n using Nat.strongRecOn with
  |_ n ih=>
   intro x hn hI a w ha hw
   obtain⟨e,a₁,w₁,hq,harr⟩:=(round x hI).go a w ha hw b (.inLoop c::k) cs
   obtain⟨t',H',ha',hw',hq⟩:=hq
   cases e with
   |normal=>
    obtain⟨y,hy,hlt,hsub,hsat⟩:=hq
    obtain⟨e₂,a₂,w₂,hq₂,harr₂⟩:=ih (μ y) (hn ▸ hlt) y rfl hy a₁ w₁ (ha'.sub hsub) (hsat.sat hw')
    exact⟨e₂,a₂,w₂,hq₂, .of_steps (Steps.trans harr (.one step_inLoop)) harr₂⟩
   |exit id=> exact⟨_,a₁,w₁,⟨t',H',ha',hw',hq⟩, .pass (x:= .inLoop c) rfl (fun _ _=> .inl (an)) harr⟩
   |goto l=> exact⟨_,a₁,w₁,⟨t',H',ha',hw',hq⟩, .pass (x:= .inLoop c) rfl (fun _ _=> .inl (an)) harr⟩
   |ret=> exact⟨_,a₁,w₁,⟨t',H',ha',hw',hq⟩, .pass (x:= .inLoop c) rfl (fun _ _=> .inl (an)) harr⟩
   |panic ch=> exact⟨_,a₁,w₁,⟨t',H',ha',hw',hq⟩, .pass (x:= .inLoop c) rfl (fun _ _=> .inl (an)) harr⟩
   |outgrown=> exact⟨_,a₁,w₁,⟨t',H',ha',hw',hq⟩, .pass (x:= .inLoop c) rfl (fun _ _=> .inl (an)) harr⟩
 obtain⟨e,a',w',hq,harr⟩:=key _ x0 rfl h0 a w (ha.sub hs) (hh.sat hw)
 exact⟨e,a',w',hq, .of_steps (.one step_loop) harr⟩
theorem QE {id:Nat}(h:Q .normal t H):xl id Q (.exit id) t H:=by
 show(bif Nat.beq id id then Q .normal t H else Q (.exit id) t H)
 rw[show Nat.beq id id=true from Nat.beq_refl id];exact h
theorem QD {id id':Nat}(hne:Nat.beq id' id=false) (h:Q (.exit id') t H):xl id Q (.exit id') t H:=by
 show(bif Nat.beq id' id then Q .normal t H else Q (.exit id') t H)
 rw[hne];exact h
section
variable {α:Type}{I:α→Prop}{fr:α→Tm}{hp:α→cG}{μ:α→Nat}{x:α}
end
structure SC (G:cK) (P:Program) (f:FuncId) (args:List Value) (H:cG) (K:Value→cG→Prop):Prop where
 enter:∀(a_s:Array Value) w,(callFunc f a_s).run P w= .ok (.enter f a_s) w
 call:∀w,Sat G w H→Calls P f args.toArray w fun e w'=> match e with
  | .returned v=> ∃H',Sat G w' H'∧K v H'
  |_=> False
theorem SC.mono {f:FuncId}{args:List Value}{K K':Value→cG→Prop}(h:SC G P f args H K) (hk:∀v H',K v H'→K' v H'):SC G P f args H K':=
 ⟨h.enter,fun w hw=> (h.call w hw).mono fun e w' he=> by
  cases e with
  |returned v=> obtain⟨H',h1,h2⟩:=he;exact⟨H',h1,hk _ _ h2⟩
  |_=> exact he.elim⟩
theorem SC.heap {f:FuncId}{args:List Value}{K:Value→cG→Prop}{H':cG}(h:SC G P f args H' K) (hs:∀w,Sat G w H→Sat G w H'):SC G P f args H K:=
 ⟨h.enter,fun w hw=> h.call w (hs w hw)⟩
def Ev (G:cK) (P:Program) (o:Oper) (t:Tm) (H:cG) (v:Value):Prop:=
 ∀ρ,zO t ρ→∀w,Sat G w H→(execOp ρ o).run P w= .ok (.value v) w
def lA (G:cK) (P:Program) (R:Value→cG→Prop):Result Next→Prop
 | .ok (.value v) w'=> ∃H',Sat G w' H'∧R v H'
 | .ok .skip w'=> ∃H',Sat G w' H'∧R undef H'
 | .ok (.enter f args) w'=> Calls P f args w' fun e w''=> match e with
  | .returned v=> ∃H',Sat G w'' H'∧R v H'
  |_=> False
 |_=> False
def St (G:cK) (P:Program) (o:Oper) (t:Tm) (H:cG) (R:Value→cG→Prop):Prop:=
 ∀ρ,zO t ρ→∀w,Sat G w H→lA G P R ((execOp ρ o).run P w)
theorem Ev.st {o:Oper}{v:Value}(h:Ev G P o t H v):St G P o t H (fun u H'=> u=v∧H'=H):=
 fun ρ hρ w hw=> by rw[h ρ hρ w hw];exact⟨H,hw,rfl,rfl⟩
theorem lA.wp {o:Oper}{a:Act}{w:World}{R:Value→cG→Prop}{next:Act→World→Prop}(h:lA G P R ((execOp a.eval o).run P w))
 (hn:∀v w' H',Sat G w' H'→R v H'→next (a.put o.dst v) w'):o.wp P a w next (up G N Q):=by
 unfold Oper.wp
 generalize (execOp a.eval o).run P w=r at*
 cases r with
 |ok n w'=>
  cases n <;> simp only[lA]at h <;> simp only[Oper.upon]
  case value v=> obtain⟨H',h1,h2⟩:=h;exact hn _ _ _ h1 h2
  case skip=> obtain⟨H',h1,h2⟩:=h;exact hn _ _ _ h1 h2
  case enter f args=>
   refine h.mono fun e w'' he=> ?_
   cases e with
   |returned v=> obtain⟨H',h1,h2⟩:=he;exact hn _ _ _ h1 h2
   |_=> exact he.elim
 |halt x w'=> simp only[lA]at h
theorem yp {ops:Array Oper}{dst:Option Tmp}{op:Op}{ty:TypeId}{pos:String}{after:Array Edge}{l:List Oper}{R:Value→cG→Prop}
 (h:St G P ⟨dst,op,ty,pos,after,none⟩ t H R) (hd:fH N dst=true) (hk:∀v H',R v H'→O G P N ops l Q (put t dst v) H'):
 O G P N ops (⟨dst,op,ty,pos,after,none⟩::l) Q t H:=by
 refine⟨fun a w ha hw=> ?_⟩
 unfold wpList
 rw[if_pos (cg)]
 exact .inl ((h a.eval ha.agree w hw).wp fun v w' H' hw' hr=> (hk v H' hr).go _ _ (ha.put hd v) hw')
theorem FX {ops:Array Oper}{dst:Option Tmp}{op:Op}{ty:TypeId}{pos:String}{after:Array Edge}{l:List Oper}{v:Value}
 (h:Ev G P ⟨dst,op,ty,pos,after,none⟩ t H v) (hd:fH N dst=true) (hk:O G P N ops l Q (put t dst v) H):
 O G P N ops (⟨dst,op,ty,pos,after,none⟩::l) Q t H:=
 yp h.st hd (fun _ _ ⟨e1,e2⟩=> by rw[e1,e2];exact hk)
theorem lD {ops:Array Oper}{o:Oper}{j d:Nat}{want b:Bool}{a:Act}(ha:Fr N t a) (hg:o.guard=some (j,want)) (hj:(ops[j]?).bind (·.dst)=some d) (hb:look t d=some (.bool b)):
 Region.wanted o (yielded ops a.tmps)=(b==want):=by
 have h1:a.tmps[d]? =some (.bool b):=ha.look _ _ hb
 have h2:yielded ops a.tmps j=some b:=by
  unfold yielded
  rw[hj]
  simp[h1]
 unfold Region.wanted
 rw[hg]
 simp only[h2]
 cases b <;> cases want <;> rfl
theorem tI {ops:Array Oper}{dst:Option Tmp}{op:Op}{ty:TypeId}{pos:String}{after:Array Edge}{l:List Oper}{R:Value→cG→Prop}{j d:Nat}{want b:Bool}
 (hj:(ops[j]?).bind (·.dst)=some d) (hb:look t d=some (.bool b))
 (h:b=want→St G P ⟨dst,op,ty,pos,after,some (j,want)⟩ t H R) (hd:fH N dst=true)
 (hk:b=want→∀v H',R v H'→O G P N ops l Q (put t dst v) H') (hn:b≠want→O G P N ops l Q (put t dst undef) H):
 O G P N ops (⟨dst,op,ty,pos,after,some (j,want)⟩::l) Q t H:=by
 refine⟨fun a w ha hw=> ?_⟩
 unfold wpList
 rw[lD (o:=⟨dst,op,ty,pos,after,some (j,want)⟩) ha rfl hj hb]
 by_cases e:b=want
 ·rw[if_pos (by simp[e])]
  exact .inl ((h e a.eval ha.agree w hw).wp fun v w' H' hw' hr=> (hk e v H' hr).go _ _ (ha.put hd v) hw')
 ·rw[if_neg (by simp[e])]
  exact(hn e).go _ _ (ha.put hd undef) hw
theorem kF {t:Tm}{ρ:Operand→Value}(hρ:zO t ρ):∀{xs:List Operand}{vs:List Value},qj t xs=some vs→xs.map ρ=vs
 | [],_,h=> by cases h;rfl
 |x::xs,vs,h=> by
  simp only[qj]at h
  split at h
  ·rename_i v us h1 h2
   cases h
   rw[List.map_cons,hρ x v h1,kF hρ h2]
  ·cases h
theorem cW {dst:Option Tmp}{f:FuncId}{xs:List Operand}{ats:Array TypeId}{ty:TypeId}{pos:String}{after:Array Edge}{g:Option (Nat×Bool)}{vs:List Value}{K:Value→cG→Prop}
 (hx:qj t xs=some vs) (hc:SC G P f vs H K):St G P ⟨dst, .call ⟨.value (.func f),xs.toArray,ats⟩,ty,pos,after,g⟩ t H K:=by
 intro ρ hρ w hw
 have h1:ρ (.func f)= .func (.func f) #[] #[]:=hρ _ _ rfl
 have h2:xs.toArray.map ρ=vs.toArray:=bR
 have:(execOp ρ ⟨dst, .call ⟨.value (.func f),xs.toArray,ats⟩,ty,pos,after,g⟩).run P w= .ok (.enter f vs.toArray) w:=by
  simp only[execOp,resolve,h1,h2,Deferred.ofValue,Sem.run_bind,Sem.run_pure,Result.andThen_ok]
  simp only[invoke,Array.append_empty,Array.empty_append]
  exact hc.enter _ _
 rw[this]
 exact hc.call w hw
def rO:Nat→List Value→Tm
 |_, []=> []
 |k,v::vs=> (k,v)::rO (k+1) vs
theorem tM:∀(args:List Value) (k n:Nat) (v:Value),look (rO k args) n=some v→k≤n∧args[n - k]? =some v:=by
 intro args
 induction args with
 |nil=> intro k n v h;cases h
 |cons a a_s ih=>
  intro k n v h
  simp only[rO,look]at h
  cases hb:Nat.beq k n with
  |true=>
   obtain rfl:=Nat.eq_of_beq_eq_true hb
   rw[hb]at h
   simp at h
   exact⟨Nat.le_refl _,by simp[h]⟩
  |false=>
   rw[hb]at h
   obtain⟨h1,h2⟩:=ih (k+1) n v h
   refine⟨aa,?_⟩
   rw[show n - k=(n - (k+1))+1 from aa,Xc]
   exact h2
def HQ (P:Program) (fn:Func) (K:Value→cG→Prop):Post:=fun e t H=> (e= .normal∨e= .ret)∧∃v,K v H∧∀G N a w,Fr N t a→Sat G w H→(results fn a.tmps).run P w= .ok v w
theorem Fu {f:FuncId}{fn:Func}{c:Code}{args:List Value}{K:Value→cG→Prop}(hf:P.funcs[f]? =some fn) (hb:fn.body=some c) (hn:(fn.name== "runtime.NumGoroutine")=false)
 (t0:Tm) (ht:∀n v,look t0 n=some v→args[n]? =some v) (hle:args.length≤fn.ntmps)
 (h:W G P fn.ntmps c (HQ P fn K) t0 H):SC G P f args H K:=by
 refine⟨fun a_s w=> ?_,fun w hw=> ?_⟩
 ·have hn':¬fn.name= "runtime.NumGoroutine" :=by simpa using hn
  simp[callFunc,hf,hb,hn']
 ·refine calls_of_wp hf hb (wp_mono (h.go _ w ?_ hw) ?_)
  ·refine⟨aM,rfl,fun n v hv=> ?_⟩
   have:=ht n v hv
   have hlt:n<args.length:=(Yk.1 this).1
   rw[Array.getElem?_append_left (by simpa using hlt)]
   simpa using this
  ·intro e a' w' hu
   obtain⟨t',H',ha',hw',he,v,hv,hr⟩:=hu
   rcases he with rfl|rfl
   ·exact⟨ha'.defers,v,hr _ _ _ _ ha' hw',H',hw',hv⟩
   ·exact⟨ha'.defers,v,hr _ _ _ _ ha' hw',H',hw',hv⟩
theorem Pm {f:FuncId}{fn:Func}{c:Code}{args:List Value}{K:Value→cG→Prop}{N:Nat}(hf:P.funcs[f]? =some fn) (hb:fn.body=some c) (hN:fn.ntmps=N) (hn:(fn.name== "runtime.NumGoroutine")=false)
 (hle:args.length≤N) (h:W G P N c (HQ P fn K) (rO 0 args) H):SC G P f args H K:=by
 subst hN
 exact Fu hf hb hn (rO 0 args) (fun n v hv=> (tM args 0 n v hv).2) hle h
end
class Und (P:Program) (T:TypeId) (d:outParam TypeDesc):Prop where
 out:P.underlying T=some d
class Inf (P:Program) (T:TypeId) (size bytes:outParam Nat) (zero:outParam Value):Prop where
 out:∃i,P.info? T=some i∧i.size=size∧i.bytes=bytes∧i.zero=some zero
class One (P:Program) (T:TypeId):Prop where
 out:∃d,P.underlying T=some d∧(match d with| .struct _| .array _ _=> false|_=> true)=true
class Agg (P:Program) (T:TypeId) (size:outParam Nat):Prop where
 out:∃d i,P.underlying T=some d∧(match d with| .struct _| .array _ _=> true|_=> false)=true∧P.info? T=some i∧i.size=size
class Fld (P:Program) (T:TypeId) (k:Nat) (off:outParam Nat):Prop where
 out:∃fs f i,P.underlying T=some (.struct fs)∧fs[k]? =some f∧f.offset=off∧P.info? f.type=some i∧i.size≠0
section
variable {G:cK}{P:Program}{t:Tm}{H:cG}{dst:Option Tmp}{ty:TypeId}{pos:String}{after:Array Edge}{g:Option (Nat×Bool)}
theorem K8 {x:Operand}{v:Value}(hx:evo t x=some v):Ev G P ⟨dst, .move x,ty,pos,after,g⟩ t H v:=
 fun ρ hρ w _=> by simp[execOp,hρ x v hx]
theorem vL {x:Operand}{v:Value}(hx:evo t x=some v):Ev G P ⟨dst, .assign x,ty,pos,after,g⟩ t H v:=
 fun ρ hρ w _=> by simp[execOp,hρ x v hx]
theorem B5 {x:Operand}{i:Nat}{vs:Array Value}{v:Value}(hx:evo t x=some (.tuple vs)) (hv:vs[i]? =some v):
 Ev G P ⟨dst, .extract x i,ty,pos,after,g⟩ t H v:=
 fun ρ hρ w _=> by simp[execOp,hρ _ _ hx,Instr.extract,hv]
theorem yP {x:Operand}{a:Addr}(hx:evo t x=some (.pointer (some a))):Ev G P ⟨dst, .nilCheck x,ty,pos,after,g⟩ t H (.pointer (some a)):=
 fun ρ hρ w _=> by simp[execOp,hρ _ _ hx]
theorem iq {z:Int}(h: -9223372036854775808≤z∧z≤9223372036854775807):IntKind.i64.wrap z=z:=by
 rw[IntKind.wrap_i64];omega
theorem wV {T U:TypeId}{x y:Operand}{a b:Int}(hx:evo t x=some (.int .i64 a)) (hy:evo t y=some (.int .i64 b)) (h: -9223372036854775808≤a+b∧a+b≤9223372036854775807):
 Ev G P ⟨dst, .binOp .add T x y U,ty,pos,after,g⟩ t H (.int .i64 (a+b)):=
 fun ρ hρ w _=> bj
theorem H8 {T U:TypeId}{x y:Operand}{a b:Int}(hx:evo t x=some (.int .i64 a)) (hy:evo t y=some (.int .i64 b)) (h: -9223372036854775808≤a - b∧a - b≤9223372036854775807):
 Ev G P ⟨dst, .binOp .sub T x y U,ty,pos,after,g⟩ t H (.int .i64 (a - b)):=
 fun ρ hρ w _=> bj
theorem Nu {T U:TypeId}{x y:Operand}{a b:Int}(hx:evo t x=some (.int .i64 a)) (hy:evo t y=some (.int .i64 b)) (h: -9223372036854775808≤a*b∧a*b≤9223372036854775807):
 Ev G P ⟨dst, .binOp .mul T x y U,ty,pos,after,g⟩ t H (.int .i64 (a*b)):=
 fun ρ hρ w _=> bj
theorem Ha {T:TypeId}{x:Operand}{a:Int}(hx:evo t x=some (.int .i64 a)) (h: -9223372036854775808≤ -a∧ -a≤9223372036854775807):
 Ev G P ⟨dst, .unOp .neg T x,ty,pos,after,g⟩ t H (.int .i64 (-a)):=
 fun ρ hρ w _=> by simp[execOp,hρ _ _ hx,Op.unary,Op.intArith,iq h]
theorem Nv {T U:TypeId}{x y:Operand}{k:IntKind}{a b:Int}(hx:evo t x=some (.int k a)) (hy:evo t y=some (.int k b)):
 Ev G P ⟨dst, .binOp .lss T x y U,ty,pos,after,g⟩ t H (.bool (decide (a<b))):=
 fun ρ hρ w _=> aS
theorem Nw {T U:TypeId}{x y:Operand}{k:IntKind}{a b:Int}(hx:evo t x=some (.int k a)) (hy:evo t y=some (.int k b)):
 Ev G P ⟨dst, .binOp .leq T x y U,ty,pos,after,g⟩ t H (.bool (decide (a≤b))):=
 fun ρ hρ w _=> aS
theorem Ny {T U:TypeId}{x y:Operand}{k:IntKind}{a b:Int}(hx:evo t x=some (.int k a)) (hy:evo t y=some (.int k b)):
 Ev G P ⟨dst, .binOp .gtr T x y U,ty,pos,after,g⟩ t H (.bool (decide (b<a))):=
 fun ρ hρ w _=> aS
theorem Nz {T U:TypeId}{x y:Operand}{k:IntKind}{a b:Int}(hx:evo t x=some (.int k a)) (hy:evo t y=some (.int k b)):
 Ev G P ⟨dst, .binOp .geq T x y U,ty,pos,after,g⟩ t H (.bool (decide (b≤a))):=
 fun ρ hρ w _=> aS
theorem NA {T U:TypeId}{x y:Operand}{k:IntKind}{a b:Int}(hx:evo t x=some (.int k a)) (hy:evo t y=some (.int k b)):
 Ev G P ⟨dst, .binOp .eql T x y U,ty,pos,after,g⟩ t H (.bool (decide (a=b))):=
 fun ρ hρ w _=> by
  have e:(a==b)=decide (a=b):=by rw[Bool.eq_iff_iff];simp
  simp[execOp,hρ _ _ hx,hρ _ _ hy,eqGuard,binOp,Op.intCmp,e]
theorem Nt {T U:TypeId}{x y:Operand}{k:IntKind}{a b:Int}(hx:evo t x=some (.int k a)) (hy:evo t y=some (.int k b)):
 Ev G P ⟨dst, .binOp .neq T x y U,ty,pos,after,g⟩ t H (.bool (decide (a≠b))):=
 fun ρ hρ w _=> by
  have e:(a !=b)=decide (a≠b):=by rw[Bool.eq_iff_iff];simp
  simp only[execOp,hρ _ _ hx,hρ _ _ hy,eqGuard,binOp,Op.intCmp]
  simp[e]
theorem Ns {T:TypeId}{x:Operand}{b:Bool}(hx:evo t x=some (.bool b)):Ev G P ⟨dst, .unOp .not T x,ty,pos,after,g⟩ t H (.bool !b):=
 fun ρ hρ w _=> by simp[execOp,hρ _ _ hx,Op.unary]
theorem iX {k:IntKind}(hk:k.signed=false) (n:Nat):k.wrap (n:Int)=((n % 2 ^ k.bits:Nat):Int):=by
 cases k <;> simp_all [IntKind.wrap,IntKind.signed,IntKind.bits] <;> omega
theorem fL (m n:Nat):BitVec.ofInt m (n:Int)=BitVec.ofNat m n:=by
 simp
theorem Ke {T U:TypeId}{x y:Operand}{k:IntKind}{i j:Int}(hx:evo t x=some (.int k i)) (hy:evo t y=some (.int k j)) (hk:k.signed=false) (a b:Nat) (ha:i=a) (hb:j=b):
 Ev G P ⟨dst, .binOp .add T x y U,ty,pos,after,g⟩ t H (.int k (((a+b) % 2 ^ k.bits:Nat):Int)):=
 fun ρ hρ w _=> by
  have e:k.wrap ((a:Int)+(b:Int))=(((a+b) % 2 ^ k.bits:Nat):Int):=by rw[←iX hk];congr 1
  simp only[execOp,hρ _ _ hx,hρ _ _ hy,eqGuard,binOp,Op.intArith,ha,hb]
  simp[e]
theorem K7 {T U:TypeId}{x y:Operand}{k:IntKind}{i j:Int}(hx:evo t x=some (.int k i)) (hy:evo t y=some (.int k j)) (hk:k.signed=false) (a b:Nat) (ha:i=a) (hb:j=b):
 Ev G P ⟨dst, .binOp .mul T x y U,ty,pos,after,g⟩ t H (.int k (((a*b) % 2 ^ k.bits:Nat):Int)):=
 fun ρ hρ w _=> by
  have e:k.wrap ((a:Int)*(b:Int))=(((a*b) % 2 ^ k.bits:Nat):Int):=by rw[←iX hk,Int.natCast_mul]
  simp only[execOp,hρ _ _ hx,hρ _ _ hy,eqGuard,binOp,Op.intArith,ha,hb]
  simp[e]
theorem K3 {T U:TypeId}{x y:Operand}{k:IntKind}{i j:Int}(hx:evo t x=some (.int k i)) (hy:evo t y=some (.int k j)) (hk:k.signed=false) (a b:Nat) (ha:i=a) (hb:j=b) (hle:b≤a) (hlt:a<2 ^ k.bits):
 Ev G P ⟨dst, .binOp .sub T x y U,ty,pos,after,g⟩ t H (.int k ((a - b:Nat):Int)):=
 fun ρ hρ w _=> by
  have e:k.wrap ((a:Int) - (b:Int))=((a - b:Nat):Int):=by
   rw[←Int.ofNat_sub hle,iX hk,Nat.mod_eq_of_lt (aa)]
  simp only[execOp,hρ _ _ hx,hρ _ _ hy,eqGuard,binOp,Op.intArith,ha,hb]
  simp only[Sem.run_bind,Sem.run_pure,e,ne_eq,not_true_eq_false,↓reduceIte]
  rfl
theorem Kd {T U:TypeId}{x y:Operand}{k:IntKind}{i j:Int}(hx:evo t x=some (.int k i)) (hy:evo t y=some (.int k j)) (hk:k.signed=false) (a b:Nat) (ha:i=a) (hb:j=b) (hla:a<2 ^ k.bits) (hlb:b<2 ^ k.bits):
 Ev G P ⟨dst, .binOp .and T x y U,ty,pos,after,g⟩ t H (.int k ((a &&& b:Nat):Int)):=
 fun ρ hρ w _=> by
  have e:(BitVec.ofInt k.bits (a:Int) &&& BitVec.ofInt k.bits (b:Int)).toNat=a &&& b:=by
   rw[fL,fL,BitVec.toNat_and,BitVec.toNat_ofNat,BitVec.toNat_ofNat,Nat.mod_eq_of_lt hla,Nat.mod_eq_of_lt hlb]
  have e2:k.wrap ((a &&& b:Nat):Int)=((a &&& b:Nat):Int):=by rw[iX hk,Nat.mod_eq_of_lt (Nat.and_lt_two_pow _ hlb)]
  simp only[execOp,hρ _ _ hx,hρ _ _ hy,eqGuard,binOp,Op.intBits,ha,hb]
  simp only[Sem.run_bind,Sem.run_pure,e,e2,ne_eq,not_true_eq_false,↓reduceIte]
  rfl
theorem Nr {T U:TypeId}{x y:Operand}{k:IntKind}{i j:Int}(hx:evo t x=some (.int k i)) (hy:evo t y=some (.int k j)) (hk:k.signed=false) (a b:Nat) (ha:i=a) (hb:j=b) (hla:a<2 ^ k.bits) (hlb:b<2 ^ k.bits):
 Ev G P ⟨dst, .binOp .or T x y U,ty,pos,after,g⟩ t H (.int k ((a |||b:Nat):Int)):=
 fun ρ hρ w _=> by
  have e:(BitVec.ofInt k.bits (a:Int) |||BitVec.ofInt k.bits (b:Int)).toNat=a |||b:=by
   rw[fL,fL,BitVec.toNat_or,BitVec.toNat_ofNat,BitVec.toNat_ofNat,Nat.mod_eq_of_lt hla,Nat.mod_eq_of_lt hlb]
  have e2:k.wrap ((a |||b:Nat):Int)=((a |||b:Nat):Int):=by rw[iX hk,Nat.mod_eq_of_lt (Nat.or_lt_two_pow hla hlb)]
  simp only[execOp,hρ _ _ hx,hρ _ _ hy,eqGuard,binOp,Op.intBits,ha,hb]
  simp only[Sem.run_bind,Sem.run_pure,e,e2,ne_eq,not_true_eq_false,↓reduceIte]
  rfl
theorem K1 {T U:TypeId}{x y:Operand}{k:IntKind}{i j:Int}(hx:evo t x=some (.int k i)) (hy:evo t y=some (.int k j)) (hk:k.signed=false) (a b:Nat) (ha:i=a) (hb:j=b) (hla:a<2 ^ k.bits) (hlb:b<2 ^ k.bits):
 Ev G P ⟨dst, .binOp .xor T x y U,ty,pos,after,g⟩ t H (.int k ((a ^^^ b:Nat):Int)):=
 fun ρ hρ w _=> by
  have e:(BitVec.ofInt k.bits (a:Int) ^^^ BitVec.ofInt k.bits (b:Int)).toNat=a ^^^ b:=by
   rw[fL,fL,BitVec.toNat_xor,BitVec.toNat_ofNat,BitVec.toNat_ofNat,Nat.mod_eq_of_lt hla,Nat.mod_eq_of_lt hlb]
  have e2:k.wrap ((a ^^^ b:Nat):Int)=((a ^^^ b:Nat):Int):=by rw[iX hk,Nat.mod_eq_of_lt (Nat.xor_lt_two_pow hla hlb)]
  simp only[execOp,hρ _ _ hx,hρ _ _ hy,eqGuard,binOp,Op.intBits,ha,hb]
  simp only[Sem.run_bind,Sem.run_pure,e,e2,ne_eq,not_true_eq_false,↓reduceIte]
  rfl
theorem K6 {T:TypeId}{x:Operand}{k:IntKind}{i:Int}(hx:evo t x=some (.int k i)) (hk:k.signed=false) (a:Nat) (ha:i=a) (hla:a<2 ^ k.bits):
 Ev G P ⟨dst, .unOp .xor T x,ty,pos,after,g⟩ t H (.int k (((2 ^ k.bits - 1) ^^^ a:Nat):Int)):=
 fun ρ hρ w _=> by
  have hm:(k.max:Int)=((2 ^ k.bits - 1:Nat):Int):=by cases k <;> simp_all [IntKind.max,IntKind.signed,IntKind.bits]
  have hlb:2 ^ k.bits - 1<2 ^ k.bits:=by have:=Nat.two_pow_pos k.bits;omega
  have e:(BitVec.ofInt k.bits ((2 ^ k.bits - 1:Nat):Int) ^^^ BitVec.ofInt k.bits (a:Int)).toNat=(2 ^ k.bits - 1) ^^^ a:=by
   rw[fL,fL,BitVec.toNat_xor,BitVec.toNat_ofNat,BitVec.toNat_ofNat,Nat.mod_eq_of_lt hla,Nat.mod_eq_of_lt hlb]
  have e2:k.wrap (((2 ^ k.bits - 1) ^^^ a:Nat):Int)=(((2 ^ k.bits - 1) ^^^ a:Nat):Int):=by rw[iX hk,Nat.mod_eq_of_lt (Nat.xor_lt_two_pow hlb hla)]
  simp only[execOp,hρ _ _ hx,Op.unary,Op.intBits,ha,hk,hm]
  simp only[Sem.run_bind,Sem.run_pure,e,e2,Bool.false_eq_true,↓reduceIte]
  rfl
theorem fC {T U:TypeId}{x y:Operand}{k k':IntKind}{i j:Int}(hx:evo t x=some (.int k i)) (hy:evo t y=some (.int k' j)) (a b:Nat) (ha:i=a) (hb:j=b) (hla:b≤k.bits):
 Ev G P ⟨dst, .binOp .shr T x y U,ty,pos,after,g⟩ t H (.int k ((a / 2 ^ b:Nat):Int)):=
 fun ρ hρ w _=> by
  have e:((a:Int).fdiv (2 ^ b))=((a / 2 ^ b:Nat):Int):=by
   rw[Int.fdiv_eq_ediv_of_nonneg _ (by exact Int.pow_nonneg (ag))]
   simp
  simp only[execOp,hρ _ _ hx,hρ _ _ hy,eqGuard,binOp,Op.shift,ha,hb]
  have hb0:¬((b:Int)<0):=aa
  simp[Nat.min_eq_left hla,e,hb0]
theorem K4 {T U:TypeId}{x y:Operand}{k k':IntKind}{i j:Int}(hx:evo t x=some (.int k i)) (hy:evo t y=some (.int k' j)) (hk:k.signed=false) (a b:Nat) (ha:i=a) (hb:j=b):
 Ev G P ⟨dst, .binOp .shl T x y U,ty,pos,after,g⟩ t H (.int k ((a*2 ^ b % 2 ^ k.bits:Nat):Int)):=
 fun ρ hρ w _=> by
  have e:k.wrap ((a:Int)*2 ^ min b k.bits)=((a*2 ^ b % 2 ^ k.bits:Nat):Int):=by
   rw[show((a:Int)*2 ^ min b k.bits)=((a*2 ^ min b k.bits:Nat):Int)from an,iX hk]
   congr 1
   rcases Nat.le_total b k.bits with h|h
   ·rw[Nat.min_eq_left h]
   ·rw[Nat.min_eq_right h]
    obtain⟨c,rfl⟩:=Nat.le.dest h
    rw[Nat.pow_add]
    rw[show a*(2 ^ k.bits*2 ^ c)=a*2 ^ c*2 ^ k.bits by rw[Nat.mul_comm (2 ^ k.bits),Nat.mul_assoc]]
    simp
  simp only[execOp,hρ _ _ hx,hρ _ _ hy,eqGuard,binOp,Op.shift,ha,hb]
  have hb0:¬((b:Int)<0):=aa
  simp[e,hb0]
theorem Hd {S D:TypeId}{ds:TypeDesc}{x:Operand}{k k':IntKind}{i:Int} [hs:Und P S ds] [hd:Und P D (.int k')] (hx:evo t x=some (.int k i)) (hk:k'.signed=false) (a:Nat) (ha:i=a):
 Ev G P ⟨dst, .convert S D x,ty,pos,after,g⟩ t H (.int k' ((a % 2 ^ k'.bits:Nat):Int)):=
 fun ρ hρ w _=> by
  have e:(underlying S).run P w= .ok ds w:=by simp[underlying,hs.out]
  have e2:(underlying D).run P w= .ok (.int k') w:=by simp[underlying,hd.out]
  simp only[execOp,convert,hρ _ _ hx,ha,Sem.run_bind,e,e2,Result.andThen_ok]
  cases ds <;> simp[Conv.intToInt,iX hk]
theorem dy {S D:TypeId}{ds:TypeDesc}{x:Operand}{k:IntKind}{i:Int} [hs:Und P S ds] [hd:Und P D (.int .i64)] (hx:evo t x=some (.int k i)) (h: -9223372036854775808≤i∧i≤9223372036854775807):
 Ev G P ⟨dst, .convert S D x,ty,pos,after,g⟩ t H (.int .i64 i):=
 fun ρ hρ w _=> by
  have e:(underlying S).run P w= .ok ds w:=by simp[underlying,hs.out]
  have e2:(underlying D).run P w= .ok (.int .i64) w:=by simp[underlying,hd.out]
  simp only[execOp,convert,hρ _ _ hx,Sem.run_bind,e,e2,Result.andThen_ok]
  cases ds <;> simp[Conv.intToInt,iq h]
theorem gn {T U:TypeId}{x y:Operand}{k:IntKind}{i j:Int}(hx:evo t x=some (.int k i)) (hy:evo t y=some (.int k j)) (a b:Nat) (ha:i=a) (hb:j=b) (hp:0<b) (hla:(a:Int)≤k.max):
 Ev G P ⟨dst, .binOp .quo T x y U,ty,pos,after,g⟩ t H (.int k ((a / b:Nat):Int)):=
 fun ρ hρ w _=> by
  have h0:¬((b:Int)=0):=aa
  have hd:a / b≤a:=Nat.div_le_self a b
  have e:k.wrap ((a:Int).tdiv (b:Int))=((a / b:Nat):Int):=by
   rw[Int.tdiv_eq_ediv_of_nonneg (aa),←Int.natCast_ediv]
   generalize a / b=c at*
   cases k <;> simp[IntKind.max,IntKind.signed,IntKind.bits,IntKind.wrap]at hla⊢ <;> omega
  simp only[execOp,hρ _ _ hx,hρ _ _ hy,eqGuard,binOp,Op.intDiv,ha,hb]
  simp only[Sem.run_bind,Sem.run_pure,ne_eq,not_true_eq_false,↓reduceIte,h0,e]
  rfl
theorem kG {T U:TypeId}{x y:Operand}{k:IntKind}{i j:Int}(hx:evo t x=some (.int k i)) (hy:evo t y=some (.int k j)) (a b:Nat) (ha:i=a) (hb:j=b) (hp:0<b):
 Ev G P ⟨dst, .binOp .rem T x y U,ty,pos,after,g⟩ t H (.int k ((a % b:Nat):Int)):=
 fun ρ hρ w _=> by
  have h0:¬((b:Int)=0):=aa
  have e:(a:Int).tmod (b:Int)=((a % b:Nat):Int):=by
   rw[Int.tmod_eq_emod_of_nonneg (aa)];simp
  simp only[execOp,hρ _ _ hx,hρ _ _ hy,eqGuard,binOp,Op.intDiv,ha,hb]
  simp only[Sem.run_bind,Sem.run_pure,ne_eq,not_true_eq_false,↓reduceIte,h0,e]
  rfl
theorem mN {x y:Operand}{ats:Array TypeId}{k:IntKind}{a b:Int}(hx:evo t x=some (.int k a)) (hy:evo t y=some (.int k b)):
 Ev G P ⟨dst, .call ⟨.builtin .min, #[x,y],ats⟩,ty,pos,after,g⟩ t H (.int k (min a b)):=
 fun ρ hρ w _=> by
  have e:(if b<a then b else a)=min a b:=by rw[Int.min_def];split <;> split <;> omega
  simp[execOp,resolve,invoke,builtin,Builtin.min_,Builtin.min2,hρ _ _ hx,hρ _ _ hy,e]
theorem mO {x y:Operand}{ats:Array TypeId}{k:IntKind}{a b:Int}(hx:evo t x=some (.int k a)) (hy:evo t y=some (.int k b)):
 Ev G P ⟨dst, .call ⟨.builtin .max, #[x,y],ats⟩,ty,pos,after,g⟩ t H (.int k (max a b)):=
 fun ρ hρ w _=> by
  have e:(if b > a then b else a)=max a b:=by rw[Int.max_def];split <;> split <;> omega
  simp[execOp,resolve,invoke,builtin,Builtin.max_,Builtin.max2,hρ _ _ hx,hρ _ _ hy,e]
end
end Go.Sx
