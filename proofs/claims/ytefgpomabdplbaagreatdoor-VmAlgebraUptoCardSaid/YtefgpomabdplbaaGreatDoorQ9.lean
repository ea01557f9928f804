import Derived.Test.YtefgpomabdplbaaGreatDoorQ8
import Derived.KernelRfl
set_option linter.unusedVariables false
set_option linter.unusedSimpArgs false
set_option linter.unusedSectionVars false
set_option linter.unnecessarySimpa false
set_option maxHeartbeats 0
namespace Go.Sx
open Go
section
variable {G:cK}{P:Program}{N:Nat}{Q:Post}{t:Tm}{H:cG}{ops:Array Oper}{dst:Option Tmp}{ty:TypeId}{pos:String}{after:Array Edge}{g:Option (Nat×Bool)}{l:List Oper}{op:Op}{v:Value}{j d:Nat}{want b:Bool}
theorem nrm {p q:Prop}(h:p) (k:p→q:=by intro h;first|(simp only[decide_eq_true_eq,decide_eq_false_iff_not,Bool.not_eq_true',Bool.not_eq_false',Bool.and_eq_true,Bool.or_eq_true,Bool.or_eq_false_iff,Bool.and_eq_false_iff,ne_eq,Decidable.not_not]at h;exact h)|exact h):q:=k h
theorem hsb {H H':cG}(h:cJ H H':=by(repeat (first|exact cJ.refl|apply KH|apply cJ.row|apply KG|apply HX|apply HW|apply cJ.rd|apply cJ.rd' rfl|apply cJ.nilRow|apply cJ.mp|apply qC|apply xk|apply uS|apply Bl|apply cJ.drop))):cJ H H':=h
theorem sbt {t' t:Tm}(h:Sub t' t:=by(repeat (first|exact Sub.nil|apply Sub.cons (by exact rfl)))):Sub t' t:=h
theorem e_ (h:Ev G P ⟨dst,op,ty,pos,after,none⟩ t H v) (hd:fH N dst=true:=by exact rfl) (k:O G P N ops l Q (put t dst v) H):O G P N ops (⟨dst,op,ty,pos,after,none⟩::l) Q t H:=FX h hd k
theorem eg_ (h:Ev G P ⟨dst,op,ty,pos,after,some (j,want)⟩ t H v) (hj:(ops[j]?).bind (·.dst)=some d:=by exact rfl) (hv:look t d=some (.bool want):=by exact rfl) (hd:fH N dst=true:=by exact rfl) (k:O G P N ops l Q (put t dst v) H):
 O G P N ops (⟨dst,op,ty,pos,after,some (j,want)⟩::l) Q t H:=sx hj hv hd h k
theorem of_ (hj:(ops[j]?).bind (·.dst)=some d:=by exact rfl) (hv:look t d=some (.bool !want):=by exact rfl) (hd:fH N dst=true:=by exact rfl) (k:O G P N ops l Q (put t dst undef) H):
 O G P N ops (⟨dst,op,ty,pos,after,some (j,want)⟩::l) Q t H:=FU hj hv hd k
theorem ou_ (hj:(ops[j]?).bind (·.dst)=some d:=by exact rfl) (hv:look t d=some undef:=by exact rfl) (hd:fH N dst=true:=by exact rfl) (k:O G P N ops l Q (put t dst undef) H):
 O G P N ops (⟨dst,op,ty,pos,after,some (j,want)⟩::l) Q t H:=wC hj hv hd k
theorem s_ {R:Value→cG→Prop}(h:St G P ⟨dst,op,ty,pos,after,none⟩ t H R) (hd:fH N dst=true:=by exact rfl) (k:∀v H',R v H'→O G P N ops l Q (put t dst v) H'):O G P N ops (⟨dst,op,ty,pos,after,none⟩::l) Q t H:=yp h hd k
theorem sg_ {R:Value→cG→Prop}(h:St G P ⟨dst,op,ty,pos,after,some (j,want)⟩ t H R) (hj:(ops[j]?).bind (·.dst)=some d:=by exact rfl) (hv:look t d=some (.bool want):=by exact rfl) (hd:fH N dst=true:=by exact rfl) (k:∀v H',R v H'→O G P N ops l Q (put t dst v) H'):
 O G P N ops (⟨dst,op,ty,pos,after,some (j,want)⟩::l) Q t H:=MH hj hv hd h k
theorem cp_ {f:FuncId}{xs:List Operand}{ats:Array TypeId}{vs:List Value}{H2:cG}(hx:qj t xs=some vs) (hc:SC G P f vs H (fun u H'=> u=v∧H'=H2)) (hd:fH N dst=true:=by exact rfl) (k:O G P N ops l Q (put t dst v) H2):
 O G P N ops (⟨dst, .call ⟨.value (.func f),xs.toArray,ats⟩,ty,pos,after,none⟩::l) Q t H:=yp (cW hx hc) hd (by rintro _ _ ⟨rfl,rfl⟩;exact k)
theorem sp_ {p q:Prop}(h:Ev G P ⟨dst,op,ty,pos,after,none⟩ t H (.bool b)) (hd:fH N dst=true:=by exact rfl) (n1:b=true→p:=by intro h;first|(simp only[decide_eq_true_eq,decide_eq_false_iff_not,Bool.not_eq_true',Bool.not_eq_false',Bool.and_eq_true,Bool.or_eq_true,Bool.or_eq_false_iff,Bool.and_eq_false_iff,ne_eq,Decidable.not_not]at h;exact h)|exact h) (n2:b=false→q:=by intro h;first|(simp only[decide_eq_true_eq,decide_eq_false_iff_not,Bool.not_eq_true',Bool.not_eq_false',Bool.and_eq_true,Bool.or_eq_true,Bool.or_eq_false_iff,Bool.and_eq_false_iff,ne_eq,Decidable.not_not]at h;exact h)|exact h)
 (k:p→O G P N ops l Q (put t dst (.bool true)) H) (m:q→O G P N ops l Q (put t dst (.bool false)) H):O G P N ops (⟨dst,op,ty,pos,after,none⟩::l) Q t H:=Jx h hd (fun h=> k (n1 h)) (fun h=> m (n2 h))
theorem pN {p q:Prop}(h:Ev G P ⟨dst,op,ty,pos,after,some (j,want)⟩ t H (.bool b)) (hj:(ops[j]?).bind (·.dst)=some d:=by exact rfl) (hv:look t d=some (.bool want):=by exact rfl) (hd:fH N dst=true:=by exact rfl) (n1:b=true→p:=by intro h;first|(simp only[decide_eq_true_eq,decide_eq_false_iff_not,Bool.not_eq_true',Bool.not_eq_false',Bool.and_eq_true,Bool.or_eq_true,Bool.or_eq_false_iff,Bool.and_eq_false_iff,ne_eq,Decidable.not_not]at h;exact h)|exact h) (n2:b=false→q:=by intro h;first|(simp only[decide_eq_true_eq,decide_eq_false_iff_not,Bool.not_eq_true',Bool.not_eq_false',Bool.and_eq_true,Bool.or_eq_true,Bool.or_eq_false_iff,Bool.and_eq_false_iff,ne_eq,Decidable.not_not]at h;exact h)|exact h)
 (k:p→O G P N ops l Q (put t dst (.bool true)) H) (m:q→O G P N ops l Q (put t dst (.bool false)) H):O G P N ops (⟨dst,op,ty,pos,after,some (j,want)⟩::l) Q t H:=Aq hj hv h hd (fun h=> k (n1 h)) (fun h=> m (n2 h))
theorem wi_ {c:Operand}{x y:Code}{p q:Prop}(hc:evo t c=some (.bool b):=by exact rfl) (n1:b=true→p:=by intro h;first|(simp only[decide_eq_true_eq,decide_eq_false_iff_not,Bool.not_eq_true',Bool.not_eq_false',Bool.and_eq_true,Bool.or_eq_true,Bool.or_eq_false_iff,Bool.and_eq_false_iff,ne_eq,Decidable.not_not]at h;exact h)|exact h) (n2:b=false→q:=by intro h;first|(simp only[decide_eq_true_eq,decide_eq_false_iff_not,Bool.not_eq_true',Bool.not_eq_false',Bool.and_eq_true,Bool.or_eq_true,Bool.or_eq_false_iff,Bool.and_eq_false_iff,ne_eq,Decidable.not_not]at h;exact h)|exact h)
 (k:p→W G P N x Q t H) (m:q→W G P N y Q t H):W G P N (.cond c x y) Q t H:=I6 hc (fun h=> k (n1 h)) (fun h=> m (n2 h))
theorem ir_ {c:Operand}{x y:Code}(hc:evo t c=some (.bool b):=by exact rfl) (k:b=true→W G P N x Q t H) (m:b=false→W G P N y Q t H):W G P N (.cond c x y) Q t H:=I6 hc k m
theorem ift {c:Operand}{x y:Code}(hc:evo t c=some (.bool true):=by exact rfl) (k:W G P N x Q t H):W G P N (.cond c x y) Q t H:=CF hc k
theorem eg {c:Operand}{x y:Code}(hc:evo t c=some (.bool false):=by exact rfl) (k:W G P N y Q t H):W G P N (.cond c x y) Q t H:=zU hc k
theorem ws_ {x y:Code}(h:W G P N x (E6 G P N y Q) t H):W G P N (.seq x y) Q t H:=xt h
theorem wb_ {id:Nat}{c:Code}(h:W G P N c (xl id Q) t H):W G P N (.block id c) Q t H:=I7 h
theorem wr_ {id:Nat}{l:List Oper}(h:O G P N l.toArray l Q t H):W G P N (.region id l.toArray false) Q t H:=Ef h
theorem wt_ (h:Q .ret t H):W G P N .ret Q t H:=NO h
theorem we_ {id:Nat}(h:Q (.exit id) t H):W G P N (.exit id) Q t H:=Lu h
theorem wk_ (h:Q .normal t H):W G P N .skip Q t H:=Ee h
theorem on_ {ops:Array Oper}(h:Q .normal t H):O G P N ops [] Q t H:=FW h
theorem qn_ {y:Code}(h:W G P N y Q t H):E6 G P N y Q .normal t H:=h
theorem qe_ {y:Code}{id:Nat}(h:Q (.exit id) t H):E6 G P N y Q (.exit id) t H:=h
theorem qr_ {y:Code}(h:Q .ret t H):E6 G P N y Q .ret t H:=h
theorem bn_ {id:Nat}(h:Q .normal t H):xl id Q .normal t H:=h
theorem br_ {id:Nat}(h:Q .ret t H):xl id Q .ret t H:=h
theorem bh_ {id:Nat}(h:Q .normal t H):xl id Q (.exit id) t H:=QE h
theorem bm_ {id id':Nat}(hne:Nat.beq id' id=false:=by exact rfl) (k:Q (.exit id') t H):xl id Q (.exit id') t H:=QD hne k
section
variable {α:Type}{I:α→Prop}{fr:α→Tm}{hp:α→cG}{μ:α→Nat}{x:α}
theorem ln_ (y:α) (h2:μ y<μ x:=by(try dsimp only);omega) (h3:Sub (fr y) t:=by(try dsimp only[Yd,Ye]);exact sbt) (h4:cJ H (hp y):=by(try dsimp only[Yd,Ye]);exact hsb) (k:I y):w5 I fr hp μ x Q .normal t H:=⟨y,k,h2,h3,h4⟩
theorem le_ {id:Nat}(h:Q (.exit id) t H):w5 I fr hp μ x Q (.exit id) t H:=h
theorem lr_ (h:Q .ret t H):w5 I fr hp μ x Q .ret t H:=h
end
theorem wl_ {c:Code}(α:Type) (I:α→Prop) (fr:α→Tm) (hp:α→cG) (μ:α→Nat) (x0:α) (hs:Sub (fr x0) t:=by exact sbt) (hh:cJ H (hp x0):=by(try dsimp only);exact hsb) (h0:I x0)
 (k:∀x,I x→W G P N c (w5 I fr hp μ x Q) (fr x) (hp x)):W G P N (.loop c) Q t H:=Eg α I fr hp μ x0 h0 hs hh k
theorem dt {c:Code}(α:Type) (I:α→Prop) (fr:α→Tm) (fc:Tm) (hp:α→cG) (hc:cG) (μ:α→Nat) (x0:α) (hs:Sub (fr x0++fc) t:=by(try dsimp only[Yd,Ye]);exact sbt) (hh:cJ H (hp x0++hc):=by(try dsimp only[Yd,Ye]);exact hsb) (h0:I x0)
 (k:∀x,I x→W G P N c (w5 I (fun x=> fr x++fc) (fun x=> hp x++hc) μ x Q) (fr x++fc) (hp x++hc)):W G P N (.loop c) Q t H:=Eg α I (fun x=> fr x++fc) (fun x=> hp x++hc) μ x0 h0 hs hh k
theorem Q7 {r:Tmp}{T:TypeId}{b:Nat}{v:Value}{rs:List ResultVar}{vs:List Value}(h:look t r=some (.pointer (some ⟨b,0,none⟩))) (hT:One P T) (hH:cQ H b [v]) (k:nk P t H rs vs):nk P t H (.cell r T::rs) (v::vs):= .cons (.cell1 h) k
theorem rvc {r:Tmp}{T:TypeId}{b n:Nat}{cs:List Value}{rs:List ResultVar}{vs:List Value}(h:look t r=some (.pointer (some ⟨b,0,none⟩))) (hT:Agg P T n) (hH:cQ H b cs) (hn:cs.length=n) (k:nk P t H rs vs):nk P t H (.cell r T::rs) (.agg cs.toArray::vs):= .cons (.cell h hn) k
theorem rt_ {fn:Func}{K:Value→cG→Prop}{e:Exit}{rs:List ResultVar}{vs:List Value}(hfn:fn.results=rs.toArray) (he:e= .normal∨e= .ret:=by first|exact .inr rfl|exact .inl rfl) (hr:nk P t H rs vs:=by(repeat (first|exact nk.nil|apply nk.cons (.tmp rfl)|apply Q7 (by exact rfl) (by infer_instance) (by infer_instance)|apply rvc (by exact rfl) (by infer_instance) (by infer_instance) (by exact rfl)))) (k:K (gF vs) H):HQ P fn K e t H:=D6 hfn he hr k
section
variable {loud:Nat→Bool}{F:Nat→cG→Prop}{fuel:Nat}{listed:Array Bool}
theorem af_ (i:Nat) (hi:ops[i]? =some ⟨dst,op,ty,pos,after,none⟩:=by exact rfl) (hl:loud i=false:=by exact rfl) (hb:jr ops listed i=true:=by kernel_rfl) (hd:fH N dst=true:=by exact rfl) (q:Qv G P (F i) ⟨dst,op,ty,pos,after,none⟩ t v) (k:An G P N ops loud F Q fuel (listed.setIfInBounds i true) (put t dst v) H):An G P N ops loud F Q (fuel+1) listed t H:=cE i hi hl hb hd q k
theorem ag_ (i:Nat) (hi:ops[i]? =some ⟨dst,op,ty,pos,after,some (j,want)⟩:=by exact rfl) (hj:(ops[j]?).bind (·.dst)=some d:=by exact rfl) (hv:look t d=some (.bool want):=by exact rfl) (hl:loud i=false:=by exact rfl) (hb:jr ops listed i=true:=by kernel_rfl) (hd:fH N dst=true:=by exact rfl)
 (q:Qv G P (F i) ⟨dst,op,ty,pos,after,some (j,want)⟩ t v) (k:An G P N ops loud F Q fuel (listed.setIfInBounds i true) (put t dst v) H):An G P N ops loud F Q (fuel+1) listed t H:=ld i hi hj hv hl hb hd q k
theorem ao_ (i:Nat) (hi:ops[i]? =some ⟨dst,op,ty,pos,after,some (j,want)⟩:=by exact rfl) (hj:(ops[j]?).bind (·.dst)=some d:=by exact rfl) (hv:look t d=some (.bool !want):=by exact rfl) (hl:loud i=false:=by exact rfl) (hb:jr ops listed i=true:=by kernel_rfl) (hd:fH N dst=true:=by exact rfl)
 (k:An G P N ops loud F Q fuel (listed.setIfInBounds i true) (put t dst undef) H):An G P N ops loud F Q (fuel+1) listed t H:=NF i hi hj hv hl hb hd k
end
section
variable {fuel:Nat}{listed:Array Bool}{H0:cG}
theorem as_ (i:Nat) (hi:ops[i]? =some ⟨dst,op,ty,pos,after,none⟩:=by exact rfl) (hb:jr ops listed i=true:=by kernel_rfl) (hd:fH N dst=true:=by exact rfl) (q:Ev G P ⟨dst,op,ty,pos,after,none⟩ t H0 v) (k:An G P N ops pL (at_ H0) Q fuel (listed.setIfInBounds i true) (put t dst v) H):An G P N ops pL (at_ H0) Q (fuel+1) listed t H:=cE i hi rfl hb hd (dz q) k
theorem at2 (i:Nat) (hi:ops[i]? =some ⟨dst,op,ty,pos,after,some (j,want)⟩:=by exact rfl) (hj:(ops[j]?).bind (·.dst)=some d:=by exact rfl) (hv:look t d=some (.bool want):=by exact rfl) (hb:jr ops listed i=true:=by kernel_rfl) (hd:fH N dst=true:=by exact rfl)
 (q:Ev G P ⟨dst,op,ty,pos,after,some (j,want)⟩ t H0 v) (k:An G P N ops pL (at_ H0) Q fuel (listed.setIfInBounds i true) (put t dst v) H):An G P N ops pL (at_ H0) Q (fuel+1) listed t H:=ld i hi hj hv rfl hb hd (dz q) k
theorem az_ (hr:(Region.ready .any ops listed).isEmpty=true:=by kernel_rfl) (k:Q .normal t H0):An G P N ops pL (at_ H0) Q 0 listed t H0:=db hr (fun _ _=> rfl) k
end
end
section
variable {G:cK}{P:Program}{t:Tm}{H:cG}{dst:Option Tmp}{ty:TypeId}{pos:String}{after:Array Edge}{g:Option (Nat×Bool)}
theorem mv {x:Operand}{v:Value}(hx:evo t x=some v:=by exact rfl):Ev G P ⟨dst, .move x,ty,pos,after,g⟩ t H v:=K8 hx
theorem asn {x:Operand}{v:Value}(hx:evo t x=some v:=by exact rfl):Ev G P ⟨dst, .assign x,ty,pos,after,g⟩ t H v:=vL hx
theorem asv {x:Operand}{u v:Value}(hx:evo t x=some u) (h:u=v):Ev G P ⟨dst, .assign x,ty,pos,after,g⟩ t H v:=h ▸ vL hx
theorem exr {x:Operand}{i:Nat}{vs:Array Value}{v:Value}(hx:evo t x=some (.tuple vs):=by exact rfl) (hv:vs.toList[i]? =some v:=by exact rfl):Ev G P ⟨dst, .extract x i,ty,pos,after,g⟩ t H v:=yT hx hv
theorem nck {x:Operand}{a:Addr}(hx:evo t x=some (.pointer (some a)):=by exact rfl):Ev G P ⟨dst, .nilCheck x,ty,pos,after,g⟩ t H (.pointer (some a)):=yP hx
theorem pkt {a b c:Operand}{va:Value}(hc:evo t c=some (.bool true):=by exact rfl) (ha:evo t a=some va:=by exact rfl):Ev G P ⟨dst, .pick c a b,ty,pos,after,g⟩ t H va:=r8 hc ha
theorem pkf {a b c:Operand}{vb:Value}(hc:evo t c=some (.bool false):=by exact rfl) (hb:evo t b=some vb:=by exact rfl):Ev G P ⟨dst, .pick c a b,ty,pos,after,g⟩ t H vb:=r9 hc hb
section
variable {T U:TypeId}{x y:Operand}{k:IntKind}{a b:Int}
theorem ilt (hx:evo t x=some (.int k a):=by exact rfl) (hy:evo t y=some (.int k b):=by exact rfl):Ev G P ⟨dst, .binOp .lss T x y U,ty,pos,after,g⟩ t H (.bool (decide (a<b))):=Nv hx hy
theorem ile (hx:evo t x=some (.int k a):=by exact rfl) (hy:evo t y=some (.int k b):=by exact rfl):Ev G P ⟨dst, .binOp .leq T x y U,ty,pos,after,g⟩ t H (.bool (decide (a≤b))):=Nw hx hy
theorem igt (hx:evo t x=some (.int k a):=by exact rfl) (hy:evo t y=some (.int k b):=by exact rfl):Ev G P ⟨dst, .binOp .gtr T x y U,ty,pos,after,g⟩ t H (.bool (decide (b<a))):=Ny hx hy
theorem ige (hx:evo t x=some (.int k a):=by exact rfl) (hy:evo t y=some (.int k b):=by exact rfl):Ev G P ⟨dst, .binOp .geq T x y U,ty,pos,after,g⟩ t H (.bool (decide (b≤a))):=Nz hx hy
theorem ieq (hx:evo t x=some (.int k a):=by exact rfl) (hy:evo t y=some (.int k b):=by exact rfl):Ev G P ⟨dst, .binOp .eql T x y U,ty,pos,after,g⟩ t H (.bool (decide (a=b))):=NA hx hy
theorem ine (hx:evo t x=some (.int k a):=by exact rfl) (hy:evo t y=some (.int k b):=by exact rfl):Ev G P ⟨dst, .binOp .neq T x y U,ty,pos,after,g⟩ t H (.bool (decide (a≠b))):=Nt hx hy
theorem iad (hx:evo t x=some (.int .i64 a):=by exact rfl) (hy:evo t y=some (.int .i64 b):=by exact rfl) (h: -9223372036854775808≤a+b∧a+b≤9223372036854775807:=by omega):Ev G P ⟨dst, .binOp .add T x y U,ty,pos,after,g⟩ t H (.int .i64 (a+b)):=wV hx hy h
theorem isb (hx:evo t x=some (.int .i64 a):=by exact rfl) (hy:evo t y=some (.int .i64 b):=by exact rfl) (h: -9223372036854775808≤a - b∧a - b≤9223372036854775807:=by omega):Ev G P ⟨dst, .binOp .sub T x y U,ty,pos,after,g⟩ t H (.int .i64 (a - b)):=H8 hx hy h
theorem iml (hx:evo t x=some (.int .i64 a):=by exact rfl) (hy:evo t y=some (.int .i64 b):=by exact rfl) (h: -9223372036854775808≤a*b∧a*b≤9223372036854775807:=by omega):Ev G P ⟨dst, .binOp .mul T x y U,ty,pos,after,g⟩ t H (.int .i64 (a*b)):=Nu hx hy h
end
theorem k8 {T:TypeId}{x:Operand}{b:Bool}(hx:evo t x=some (.bool b):=by exact rfl):Ev G P ⟨dst, .unOp .not T x,ty,pos,after,g⟩ t H (.bool !b):=Ns hx
theorem ldv {T:TypeId}{x:Operand}{b off:Nat}{l:List Value}{v:Value}(hx:evo t x=some (.pointer (some ⟨b,off,none⟩)):=by exact rfl) (hT:One P T:=by infer_instance) (hH:cQ H b l:=by infer_instance) (hc:Cut l off 1 [v]:=by infer_instance):Ev G P ⟨dst, .load T x,ty,pos,after,g⟩ t H v:=Ka hx
theorem lds {T:TypeId}{x:Operand}{b off n:Nat}{l cs:List Value}(hx:evo t x=some (.pointer (some ⟨b,off,none⟩)):=by exact rfl) (hT:Agg P T n:=by infer_instance) (hH:cQ H b l:=by infer_instance) (hc:Cut l off n cs:=by infer_instance):Ev G P ⟨dst, .load T x,ty,pos,after,g⟩ t H (.agg cs.toArray):=Hb hx
theorem fla {T:TypeId}{x:Operand}{k b o off o':Nat}(hx:evo t x=some (.pointer (some ⟨b,o,none⟩)):=by exact rfl) (hf:Fld P T k off:=by infer_instance) (ha:xn o off o':=by infer_instance):Ev G P ⟨dst, .fieldAddr T x k,ty,pos,after,g⟩ t H (.pointer (some ⟨b,o',none⟩)):=wU hx
theorem fle {T:TypeId}{x:Operand}{s:SV}{k sz i o off o':Nat}{α:Type}{e:Enc α}{xs:List α}(hx:evo t x=some (.pointer (s.elt sz i o)):=by exact rfl) (hs:Sl H s e xs:=by infer_instance) (hf:Fld P T k off:=by infer_instance) (ha:xn o off o':=by infer_instance) (hlt:i<xs.length:=by omega):Ev G P ⟨dst, .fieldAddr T x k,ty,pos,after,g⟩ t H (.pointer (s.elt sz i o')):=ra hx hlt
theorem ixa {x ix:Operand}{T E:TypeId}{s:SV}{α:Type}{e:Enc α}{xs:List α}{sz bb:Nat}{z:Value}{k:IntKind}{j:Int}{i:Nat}(hx:evo t x=some s.val:=by exact rfl) (hi:evo t ix=some (.int k j):=by exact rfl) (hT:Und P T (.slice E):=by infer_instance) (hE:Inf P E sz bb z:=by infer_instance) (hs:Sl H s e xs:=by infer_instance) (hj:j=i:=by first|exact rfl|exact FG (aa)|exact Jo (aa)|exact Jn (aa)|exact Jm (aa)|exact(Int.toNat_of_nonneg (aa)).symm) (hlt:i<xs.length:=by omega):Ev G P ⟨dst, .indexAddr T x ix,ty,pos,after,g⟩ t H (.pointer (s.elt sz i 0)):=di hx hi i hj hlt
def at0 (s:List Nat) (i:Nat):Nat:=s.getD i 0
theorem FG {i:Nat}(h:1≤i):(i:Int) - 1=((i - 1:Nat):Int):=aa
theorem Jo {i:Nat}(h:2≤i):(i:Int) - 2=((i - 2:Nat):Int):=aa
theorem Jn {i:Nat}(h:3≤i):(i:Int) - 3=((i - 3:Nat):Int):=aa
theorem Jm {i k:Nat}(h:k≤i):(i:Int) - (k:Int)=((i - k:Nat):Int):=aa
theorem ixs {T:TypeId}{x ix:Operand}{s:ByteArray}{k:IntKind}{j:Int}{i:Nat}(hx:evo t x=some (.string s):=by exact rfl) (hi:evo t ix=some (.int k j):=by exact rfl) (hT:Und P T .string:=by infer_instance) (hj:j=((i:Nat):Int):=by first|exact rfl|exact FG (aa)|exact Jo (aa)|exact Jn (aa)|exact Jm (aa)|exact(Int.toNat_of_nonneg (aa)).symm) (hlt:i<(cF s).length:=by first|omega|(simp only[cL];omega)):
 Ev G P ⟨dst, .index T x ix,ty,pos,after,g⟩ t H (.int .u8 ((at0 (cF s) i:Nat):Int)):=mP hx hi i hj _ (by rw[at0,List.getD_eq_getElem?_getD,Yi hlt];rfl)
theorem J1 {T:TypeId}{x o:Operand}{s:ByteArray}{k:IntKind}{j:Int}{a:Nat}(hx:evo t x=some (.string s):=by exact rfl) (ho:evo t o=some (.int k j):=by exact rfl) (hT:Und P T .string:=by infer_instance) (hj:j=((a:Nat):Int):=by first|exact rfl|exact FG (aa)|exact Jo (aa)|exact Jn (aa)|exact Jm (aa)|exact(Int.toNat_of_nonneg (aa)).symm) (h1:a≤s.size:=by omega):
 Ev G P ⟨dst, .slice T x (some o) none none,ty,pos,after,g⟩ t H (.string (s.extract a s.size)):=mL hx a s.size ⟨k,j,ho,hj⟩ rfl h1 (Nat.le_refl _)
theorem Ab {T:TypeId}{x o:Operand}{s:ByteArray}{k:IntKind}{j:Int}{b:Nat}(hx:evo t x=some (.string s):=by exact rfl) (ho:evo t o=some (.int k j):=by exact rfl) (hT:Und P T .string:=by infer_instance) (hj:j=((b:Nat):Int):=by first|exact rfl|exact FG (aa)|exact Jo (aa)|exact Jn (aa)|exact Jm (aa)|exact(Int.toNat_of_nonneg (aa)).symm) (h1:b≤s.size:=by omega):
 Ev G P ⟨dst, .slice T x none (some o) none,ty,pos,after,g⟩ t H (.string (s.extract 0 b)):=mL hx 0 b rfl ⟨k,j,ho,hj⟩ (Yl _) h1
theorem y5 {T U:TypeId}{x y:Operand}{a b:ByteArray}(hx:evo t x=some (.string a):=by exact rfl) (hy:evo t y=some (.string b):=by exact rfl):Ev G P ⟨dst, .binOp .eql T x y U,ty,pos,after,g⟩ t H (.bool (decide (cF a=cF b))):=mQ hx hy
theorem Oa {T U:TypeId}{x y:Operand}{a b:ByteArray}(hx:evo t x=some (.string a):=by exact rfl) (hy:evo t y=some (.string b):=by exact rfl):Ev G P ⟨dst, .binOp .neq T x y U,ty,pos,after,g⟩ t H (.bool (!decide (cF a=cF b))):=uf hx hy
theorem Mq {T U:TypeId}{x y:Operand}{a b:ByteArray}(hx:evo t x=some (.string a):=by exact rfl) (hy:evo t y=some (.string b):=by exact rfl) (h:a.size+b.size≤9223372036854775807:=by omega):Ev G P ⟨dst, .binOp .add T x y U,ty,pos,after,g⟩ t H (.string (a++b)):=js hx hy h
theorem lel {T:TypeId}{x:Operand}{s:SV}{i sz:Nat}{v:Value}{α:Type}{e:Enc α}{xs:List α}{y:α}(hx:evo t x=some (.pointer (s.elt sz i 0)):=by exact rfl) (hT:One P T:=by infer_instance) (hs:Sl H s e xs:=by infer_instance) (hsz:e.sz=sz:=by exact rfl) (ha:e.agg=false:=by exact rfl) (hy:xs[i]? =some y:=by first|assumption|rfl|exact Yi (aa)) (hv:jG e y v:=by infer_instance):Ev G P ⟨dst, .load T x,ty,pos,after,g⟩ t H v:=fX hx hsz ha y hy
theorem jn {T:TypeId}{x:Operand}{s:SV}{i sz:Nat}{v:Value}{α:Type}{e:Enc α}{xs:List α}{y:α}(hx:evo t x=some (.pointer (s.elt sz i 0)):=by exact rfl) (hT:Agg P T sz:=by infer_instance) (hs:Sl H s e xs:=by infer_instance) (hsz:e.sz=sz:=by exact rfl) (ha:e.agg=true:=by exact rfl) (hy:xs[i]? =some y:=by first|assumption|rfl|exact Yi (aa)) (hv:jG e y v:=by infer_instance):Ev G P ⟨dst, .load T x,ty,pos,after,g⟩ t H v:=yR hx hsz ha y hy
theorem lfl {T:TypeId}{x:Operand}{s:SV}{i o sz:Nat}{v:Value}{α:Type}{e:Enc α}{xs:List α}{y:α}(hx:evo t x=some (.pointer (s.elt sz i o)):=by exact rfl) (hT:One P T:=by infer_instance) (hs:Sl H s e xs:=by infer_instance) (hsz:e.sz=sz:=by exact rfl) (hy:xs[i]? =some y:=by first|assumption|rfl|exact Yi (aa)) (hc:(e.f y)[o]? =some v:=by exact rfl):Ev G P ⟨dst, .load T x,ty,pos,after,g⟩ t H v:=pk hx hsz y hy hc
theorem bld {T:TypeId}{ps:List (Nat×Operand)}{places:List (Nat×Nat)}{z l:List Value}(vs:List (Nat×Value)) (hp:rY t ps=some vs:=by exact rfl) (hs:Str P T places z:=by infer_instance) (hf:Fil places z vs l:=by infer_instance):Ev G P ⟨dst, .build T ps.toArray,ty,pos,after,g⟩ t H (.agg l.toArray):=Hf (vs:=vs) hp
theorem lnn {x:Operand}{T E:TypeId}{s:SV}{α:Type}{e:Enc α}{xs:List α}(hx:evo t x=some s.val:=by exact rfl) (hT:Und P T (.slice E):=by infer_instance) (hs:Sl H s e xs:=by infer_instance):Ev G P ⟨dst, .call ⟨.builtin .len, #[x], #[T]⟩,ty,pos,after,g⟩ t H (.int .i64 ((xs.length:Nat):Int)):=Kc hx
theorem nT {x:Operand}{T:TypeId}{s:ByteArray}(hx:evo t x=some (.string s):=by exact rfl) (hT:Und P T .string:=by infer_instance):Ev G P ⟨dst, .call ⟨.builtin .len, #[x], #[T]⟩,ty,pos,after,g⟩ t H (.int .i64 ((s.size:Nat):Int)):=yS hx
end
section
variable {G:cK}{P:Program}{N:Nat}{Q:Post}{t:Tm}{H:cG}{ops:Array Oper}{dst:Option Tmp}{ty:TypeId}{pos:String}{after:Array Edge}{l:List Oper}
theorem alc {T:TypeId}{s bb:Nat}{z:Value}{cs:List Value}(hT:Inf P T s bb z:=by infer_instance) (hv:np z cs:=by infer_instance) (hd:fH N dst=true:=by exact rfl) (k:∀b,O G P N ops l Q (put t dst (.pointer (some ⟨b,0,none⟩))) (Vr b cs::H)):O G P N ops (⟨dst, .alloc T,ty,pos,after,none⟩::l) Q t H:=yp nK hd (by rintro _ _ ⟨b,rfl,rfl⟩;exact k b)
theorem bxx {T:TypeId}{x:Operand}{v:Value}{cs:List Value}(hx:evo t x=some v:=by exact rfl) (hv:np v cs:=by infer_instance) (hd:fH N dst=true:=by exact rfl) (k:∀b,O G P N ops l Q (put t dst (.pointer (some ⟨b,0,none⟩))) (Vr b cs::H)):O G P N ops (⟨dst, .box T x,ty,pos,after,none⟩::l) Q t H:=yp (th hx) hd (by rintro _ _ ⟨b,rfl,rfl⟩;exact k b)
theorem sto {T:TypeId}{x y:Operand}{b off s bb:Nat}{z v:Value}{cs0 l' cs:List Value}{C:Hp→cG}(hx:evo t x=some (.pointer (some ⟨b,off,none⟩)):=by exact rfl) (hy:evo t y=some v:=by exact rfl)
 (hT:Inf P T s bb z:=by infer_instance) (hv:np v cs:=by infer_instance) (hf:Foc H Vr b cs0 C:=by infer_instance) (hl:Spl cs0 off cs l':=by infer_instance) (hs:cs.length=s:=by exact rfl) (hd:fH N dst=true:=by exact rfl) (k:O G P N ops l Q (put t dst undef) (C (Vr b l'))):O G P N ops (⟨dst, .store T x y,ty,pos,after,none⟩::l) Q t H:=yp (dM hx hy hs) hd (by rintro _ _ ⟨rfl,rfl⟩;exact k)
theorem app {T T2 E E2:TypeId}{x y:Operand}{s s2:SV}{sz bb:Nat}{z:Value}{α:Type}{e:Enc α}{xs ys:List α}{C:Hp→cG}(hx:evo t x=some s.val:=by exact rfl) (hy:evo t y=some s2.val:=by exact rfl) (hT:Und P T (.slice E):=by infer_instance) (hT2:Und P T2 (.slice E2):=by infer_instance) (hE:Inf P E sz bb z:=by infer_instance) (hf:nx H s e xs C:=by infer_instance) (hs:Sl H s2 e ys:=by infer_instance)
 (hsz:sz=e.sz:=by exact rfl) (hzc:z.cells.size=sz:=by exact rfl) (hlim:(xs.length+ys.length)*bb≤140737488355328:=by first|omega|(simp only[Ya,Yb,Yc];omega)|(simp;omega)) (hlim2:xs.length+ys.length≤140737488355328:=by first|omega|(simp only[Ya,Yb,Yc];omega)|(simp;omega)) (hd:fH N dst=true:=by exact rfl)
 (k:∀s':SV,O G P N ops l Q (put t dst s'.val) (C (Row s' e (xs++ys)))):O G P N ops (⟨dst, .call ⟨.builtin .append, #[x,y], #[T,T2]⟩,ty,pos,after,none⟩::l) Q t H:=yp (eY hx hy hsz hzc hlim hlim2) hd (by rintro _ _ ⟨s',rfl,rfl⟩;exact k s')
theorem gz {T E:TypeId}{sz bb:Nat}{z:Value}{v1:Value}{x1:Operand}{α:Type}(e:Enc α) {y1:α}(hx1:evo t x1=some v1:=by exact rfl) (hT:Und P T (.slice E):=by infer_instance) (hE:Inf P E sz bb z:=by infer_instance) (hv1:fK e v1 y1:=by infer_instance) (hsz:sz=e.sz:=by exact rfl) (hd:fH N dst=true:=by exact rfl) (k:∀s:SV,O G P N ops l Q (put t dst s.val) (Row s e [y1]::H)):
 O G P N ops (⟨dst, .buildSlice T 1 #[(0,x1)],ty,pos,after,none⟩::l) Q t H:=yp (ew e hx1 hsz) hd (by rintro _ _ ⟨s',rfl,rfl⟩;exact k s')
end
end Go.Sx
namespace Go.Sx
open Go
theorem w6 {G:cK}{P:Program}{ops:Array Oper}{loud:Nat→Bool}{F:Nat→cG→Prop}{K:Act→cG→Prop}{H0:cG}(hF:∀i,F i H0):∀(fuel:Nat) (listed:Array Bool) (a:Act) (H:cG),oI G P ops pL (at_ H0) K fuel listed a H→oI G P ops loud F K fuel listed a H
 | 0,listed,a,H,h=> by
  obtain rfl:H=H0:=h.1 0 (fun _ _ _ hl=> by cases hl)
  exact⟨fun i _=> hF i,h.2⟩
 |fuel+1,listed,a,H,h=> by
  obtain rfl:H=H0:=h.1 0 (fun _ _ _ hl=> by cases hl)
  exact⟨fun i _=> hF i,h.2.1,fun i hi=> (h.2.2 i hi).mono fun a H h=> w6 hF fuel _ a H h⟩
theorem qv {G:cK}{P:Program}{N:Nat}{Q:Post}{ops:Array Oper}{loud:Nat→Bool}{F:Nat→cG→Prop}{fuel:Nat}{listed:Array Bool}{t:Tm}{H:cG}(hF:∀i,F i H) (h:An G P N ops pL (at_ H) Q fuel listed t H):An G P N ops loud F Q fuel listed t H:=
 ⟨fun a ha=> w6 hF _ _ _ _ (h.go a ha)⟩
theorem rP {G:cK}{P:Program}{N:Nat}{Q:Post}{t:Tm}{H:cG}{ops:Array Oper}{loud:Nat→Bool}{F:Nat→cG→Prop}{fuel:Nat}{listed:Array Bool}{dst:Option Tmp}{op:Op}{ty:TypeId}{pos:String}{after:Array Edge}{k d:Nat}{want:Bool}(i:Nat) (hi:ops[i]? =some ⟨dst,op,ty,pos,after,some (k,want)⟩) (hk:(ops[k]?).bind (·.dst)=some d) (hv:look t d=some (.bool !want)) (hr:Region.ready .any ops listed= [i]) (hd:fH N dst=true)
 (hF:∀i,rj ops loud i listed→F i H) (h:An G P N ops loud F Q fuel (listed.setIfInBounds i true) (put t dst undef) H):An G P N ops loud F Q (fuel+1) listed t H:=
 ⟨fun a ha=> ⟨hF,fun h0=> (bN),fun j hj=> by
  rw[hr]at hj
  obtain rfl:j=i:=by simpa using hj
  unfold OpK
  simp only[hi]
  rw[if_neg (cx)]
  exact h.go _ (ha.put hd undef)⟩⟩
theorem gM {G:cK}{P:Program}{N:Nat}{Q:Post}{t:Tm}{H:cG}{ops:Array Oper}{loud:Nat→Bool}{F:Nat→cG→Prop}{fuel:Nat}{listed:Array Bool}{dst:Option Tmp}{op:Op}{ty:TypeId}{pos:String}{after:Array Edge}{j d:Nat}{want:Bool}(i:Nat) (hi:ops[i]? =some ⟨dst,op,ty,pos,after,some (j,want)⟩:=by exact rfl) (hj:(ops[j]?).bind (·.dst)=some d:=by exact rfl) (hv:look t d=some undef:=by exact rfl) (hl:loud i=false:=by exact rfl) (hb:jr ops listed i=true:=by kernel_rfl) (hd:fH N dst=true:=by exact rfl)
 (k:An G P N ops loud F Q fuel (listed.setIfInBounds i true) (put t dst undef) H):An G P N ops loud F Q (fuel+1) listed t H:=
 qu hi hl hb hd (fun _ ha=> .inr ⟨pE (o:=⟨dst,op,ty,pos,after,some (j,want)⟩) ha rfl hj hv,rfl⟩) k
theorem zA {G:cK}{P:Program}{N:Nat}{Q:Post}{t:Tm}{H:cG}{ops:Array Oper}{loud:Nat→Bool}{F:Nat→cG→Prop}{fuel:Nat}{listed:Array Bool}{dst:Option Tmp}{op:Op}{ty:TypeId}{pos:String}{after:Array Edge}{j d:Nat}{want b:Bool}(i:Nat) (hi:ops[i]? =some ⟨dst,op,ty,pos,after,some (j,want)⟩) (hj:(ops[j]?).bind (·.dst)=some d) (hv:look t d=some (.bool want)) (hl:loud i=false) (hb:jr ops listed i=true) (hd:fH N dst=true)
 (hq:Qv G P (F i) ⟨dst,op,ty,pos,after,some (j,want)⟩ t (.bool b)) (h1:b=true→An G P N ops loud F Q fuel (listed.setIfInBounds i true) (put t dst (.bool true)) H) (h2:b=false→An G P N ops loud F Q fuel (listed.setIfInBounds i true) (put t dst (.bool false)) H):An G P N ops loud F Q (fuel+1) listed t H:=by
 cases b with
 |true=> exact ld i hi hj hv hl hb hd hq (h1 rfl)
 |false=> exact ld i hi hj hv hl hb hd hq (h2 rfl)
section
variable {G:cK}{P:Program}{N:Nat}{Q:Post}{t:Tm}{H:cG}{ops:Array Oper}
theorem CK {o:Oper}{a:Act}{K K':Act→World→Prop}{Q1 Q2:Exit→Act→World→Prop}(hk:∀a w,K a w→K' a w) (hq:∀e a w,e≠ .normal→Q1 e a w→Q2 e a w) {r:Result Next}(h:o.upon P a K Q1 r):o.upon P a K' Q2 r:=by
 have hl:LetsOut Q1→LetsOut Q2:=fun⟨a,w,h⟩=> ⟨a,w,hq _ _ _ (an) h⟩
 cases r with
 |ok n w=>
  cases n <;> simp only[Oper.upon]at h⊢
  case value=> exact hk _ _ h
  case skip=> exact hk _ _ h
  case defer=> exact hk _ _ h
  case enter=>
   refine h.mono fun e w' he=> ?_
   cases e with
   |returned v=> exact hk _ _ he
   |panicked ch=> exact hq _ _ _ (an) he
   |outgrown=> exact hl he
  case row=> exact h.mono fun v w' he=> hk _ _ he
 |halt x w=>
  cases x <;> simp only[Oper.upon]at h⊢
  all_goals exact hq _ _ _ (an) h
theorem oU {Q1 Q2:Exit→Act→World→Prop}(hq:∀e a w,e≠ .normal→Q1 e a w→Q2 e a w) {l2:List Oper}:∀(l1:List Oper) (a:Act) (w:World),wpList P ops Q1 l1 a w→(∀a w,Q1 .normal a w→wpList P ops Q2 l2 a w)→wpList P ops Q2 (l1++l2) a w
 | [],a,w,h,hn=> hn _ _ h
 |o::l1,a,w,h,hn=> by
  rw[Yd]
  unfold wpList at h⊢
  split at h
  ·rename_i hw
   rw[if_pos hw]
   rcases h with h|⟨h1,a',w',h2⟩
   ·exact .inl (CK (fun a w hk=> oU hq l1 a w hk hn) hq h)
   ·exact .inr ⟨h1,a',w',hq _ _ _ (an) h2⟩
  ·rename_i hw
   rw[if_neg hw]
   exact oU hq l1 _ _ h hn
def Bm (t':Tm) (H:cG):Post:=fun e t1 H1=> e= .normal∧H1=H∧Sub t' t1
theorem La (n:Nat) (t':Tm) {l:List Oper}(h:O G P N ops (l.take n) (Bm t' H) t H) (k:O G P N ops (l.drop n) Q t' H):O G P N ops l Q t H:=by
 refine⟨fun a w ha hw=> ?_⟩
 rw[←List.take_append_drop n l]
 refine oU (Q1:=up G N (Bm t' H)) ?_ _ _ _ (h.go a w ha hw) ?_
 ·rintro e a w hne ⟨t1,H1,_,_,he,_⟩;exact absurd he hne
 ·rintro a w ⟨t1,H1,h1,h2,_,rfl,h4⟩
  exact k.go a w (h1.sub h4) h2
theorem KD {t t1:Tm}{d:Nat}{v:Value}(h:look t d=none) (hs:Sub t t1):Sub t ((d,v)::t1):=by
 intro n u hn
 simp only[look]
 cases hb:Nat.beq d n with
 |true=>
  obtain rfl:=Nat.eq_of_beq_eq_true hb
  rw[h]at hn;cases hn
 |false=> exact hs n u hn
theorem edq {t1 t':Tm}{d:Tmp}{v u:Value}(h:look t1 d=some u:=by exact rfl) (hv:u=v:=by exact rfl) (hs:Sub t' t1:=by(repeat (first|exact Sub.refl|refine KD (by exact rfl) ?_))):Bm ((d,v)::t') H .normal t1 H:=⟨rfl,rfl, .cons (hv ▸ h) hs⟩
theorem dh {l:List Oper}(n:Nat) (d:Tmp) {gd:Tmp}{b c:Bool}{p:Prop}(n1:b=true→p:=by intro h;first|(simp only[decide_eq_true_eq,decide_eq_false_iff_not,Bool.not_eq_true',Bool.not_eq_false',Bool.and_eq_true,Bool.or_eq_true,Bool.or_eq_false_iff,Bool.and_eq_false_iff,ne_eq,Decidable.not_not]at h;exact h)|exact h)
 (m:O G P N ops (l.take n) (Bm ((d, .bool false)::t) H) ((gd, .bool false)::t) H:=by(repeat (first|exact FW edq|refine FU rfl rfl rfl ?_|refine wC rfl rfl rfl ?_|refine FX (r9 rfl rfl) rfl ?_|refine sx rfl rfl rfl (r9 rfl rfl) ?_)))
 (k:p→O G P N ops (l.take n) (Bm ((d, .bool c)::t) H) ((gd, .bool true)::t) H)
 (q:O G P N ops (l.drop n) Q ((d, .bool (b && c))::t) H):O G P N ops l Q ((gd, .bool b)::t) H:=by
 refine La n _ ?_ q
 cases hb:b with
 |true=> rw[Bool.true_and];exact k (n1 hb)
 |false=> rw[Bool.false_and];exact m
theorem dN {l:List Oper}(n:Nat) (d:Tmp) {gd:Tmp}{b c:Bool}{p:Prop}(n1:b=false→p:=by intro h;first|(simp only[decide_eq_true_eq,decide_eq_false_iff_not,Bool.not_eq_true',Bool.not_eq_false',Bool.and_eq_true,Bool.or_eq_true,Bool.or_eq_false_iff,Bool.and_eq_false_iff,ne_eq,Decidable.not_not]at h;exact h)|exact h)
 (m:O G P N ops (l.take n) (Bm ((d, .bool true)::t) H) ((gd, .bool true)::t) H:=by(repeat (first|exact FW edq|refine FU rfl rfl rfl ?_|refine wC rfl rfl rfl ?_|refine FX (r8 rfl rfl) rfl ?_|refine sx rfl rfl rfl (r8 rfl rfl) ?_)))
 (k:p→O G P N ops (l.take n) (Bm ((d, .bool c)::t) H) ((gd, .bool false)::t) H)
 (q:O G P N ops (l.drop n) Q ((d, .bool (b ||c))::t) H):O G P N ops l Q ((gd, .bool b)::t) H:=by
 refine La n _ ?_ q
 cases hb:b with
 |true=> rw[Bool.true_or];exact m
 |false=> rw[Bool.false_or];exact k (n1 hb)
def wo (ks:List Nat):Tm→Tm
 | []=> []
 |(n,v)::t=> bif ks.elem n then wo ks t else(n,v)::wo ks t
theorem Bq {ks:List Nat}{t:Tm}{n:Nat}{v:Value}(h:look (wo ks t) n=some v):ks.elem n=false∧look t n=some v:=by
 induction t with
 |nil=> cases h
 |cons p t ih=>
  obtain⟨m,u⟩:=p
  simp only[wo]at h
  cases hm:ks.elem m with
  |true=>
   rw[hm]at h
   obtain⟨h1,h2⟩:=ih h
   refine⟨h1,?_⟩
   simp only[look]
   cases hb:Nat.beq m n with
   |true=> obtain rfl:=Nat.eq_of_beq_eq_true hb;rw[hm]at h1;cases h1
   |false=> exact h2
  |false=>
   rw[hm]at h
   simp only[cond_false,look]at h⊢
   cases hb:Nat.beq m n with
   |true=> obtain rfl:=Nat.eq_of_beq_eq_true hb;rw[hb]at h;exact⟨hm,h⟩
   |false=> rw[hb]at h;exact ih h
theorem Br {ks:List Nat}{t:Tm}:Sub (wo ks t) t:=fun _ _ h=> (Bq h).2
theorem Bp {ks:List Nat}{t t1:Tm}{d:Nat}{v:Value}(h:ks.elem d=true) (hs:Sub (wo ks t) t1):Sub (wo ks t) ((d,v)::t1):=by
 intro n u hn
 simp only[look]
 cases hb:Nat.beq d n with
 |true=>
  obtain rfl:=Nat.eq_of_beq_eq_true hb
  rw[(Bq hn).1]at h;cases h
 |false=> exact hs n u hn
theorem Gd (g r:Tm) (n:Nat):look (g++r) n=match look g n with|some v=> some v|none=> look r n:=by
 induction g with
 |nil=> rfl
 |cons p g ih=>
  obtain⟨m,u⟩:=p
  simp only[Yd,look]
  cases Nat.beq m n with
  |true=> rfl
  |false=> simp only[cond_false];exact ih
theorem Sub.app {g r t1:Tm}(hg:Sub g t1) (hr:Sub r t1):Sub (g++r) t1:=by
 intro n v hn
 rw[Gd]at hn
 cases hk:look g n with
 |some w=> rw[hk]at hn;exact hg n v (by rw[hk];exact hn)
 |none=> rw[hk]at hn;exact hr n v hn
def HT (F:Tm) (H2:cG) (Q:Post):Post:=fun e t1 H1=> match e with
 | .normal=> Sub F t1∧cJ H1 H2
 |e=> Q e t1 H1
theorem Lt {x y:Code}(gs:Tm) (ks:List Nat) (H2:cG) (h:W G P N x (HT (gs++wo ks t) H2 Q) t H) (k:W G P N y Q (gs++wo ks t) H2):W G P N (.seq x y) Q t H:=
 xt (zS h fun e t1 H1 hq=> by
  cases e with
  |normal=> exact Ed hq.1 (zV hq.2 k)
  |_=> exact hq)
theorem mf {x y:Code}(gs:Tm) (ks:List Nat) (h:W G P N x (HT (gs++wo ks t) H Q) t H) (k:W G P N y Q (gs++wo ks t) H):W G P N (.seq x y) Q t H:=Lt gs ks H h k
def Lq {α:Type}(F:α→Tm) (hp:α→cG) (p:α→Prop) (Q:Post):Post:=fun e t1 H1=> match e with
 | .normal=> ∃a,Sub (F a) t1∧cJ H1 (hp a)∧p a
 |e=> Q e t1 H1
theorem w7 {x y:Code}(α:Type) (p:α→Prop) (gs:α→Tm) (ks:List Nat) (hp:α→cG) (hc:cG) (h:W G P N x (Lq (fun a=> gs a++wo ks t) (fun a=> hp a++hc) p Q) t H) (k:∀a,p a→W G P N y Q (gs a++wo ks t) (hp a++hc)):W G P N (.seq x y) Q t H:=
 xt (zS h fun e t1 H1 hq=> by
  cases e with
  |normal=> obtain⟨a,h1,h2,h3⟩:=hq;exact Ed h1 (zV h2 (k a h3))
  |_=> exact hq)
theorem jnE {α:Type}{p:α→Prop}{gs:α→Tm}{ks:List Nat}{hp:α→cG}{hc:cG}{t0 t1:Tm}{H1:cG}(a:α) (hs:Sub (gs a) t1:=by((try dsimp only);(repeat (first|exact Sub.nil|apply Sub.cons (by exact rfl))))) (hr:Sub (wo ks t0) t1:=by(repeat (first|exact Br|apply Bp (by exact rfl)))) (hh:cJ H1 (hp a++hc):=by(try dsimp only[Yd,Ye]);exact hsb) (q:p a):Lq (fun a=> gs a++wo ks t0) (fun a=> hp a++hc) p Q .normal t1 H1:=⟨a, .app hs hr,hh,q⟩
theorem jb {a b:Bool}(h:a=b):some (Value.bool a)=some (Value.bool b):=h ▸ rfl
theorem jne {gs:Tm}{ks:List Nat}{t0 t1:Tm}{H1 H2:cG}(hs:Sub gs t1:=by(repeat (first|exact Sub.nil|apply Sub.cons (by exact rfl)))) (hr:Sub (wo ks t0) t1:=by(repeat (first|exact Br|apply Bp (by exact rfl)))) (hh:cJ H1 H2:=by exact hsb):HT (gs++wo ks t0) H2 Q .normal t1 H1:=⟨.app hs hr,hh⟩
theorem kK {dst:Option Tmp}{ty:TypeId}{pos:String}{after:Array Edge}{l:List Oper}{v:Value}{j d:Nat}{want:Bool}{f:FuncId}{xs:List Operand}{ats:Array TypeId}{vs:List Value}{H2:cG}(hx:qj t xs=some vs:=by exact rfl) (hc:SC G P f vs H (fun u H'=> u=v∧H'=H2)) (hj:(ops[j]?).bind (·.dst)=some d:=by exact rfl) (hv:look t d=some (.bool want):=by exact rfl) (hd:fH N dst=true:=by exact rfl) (k:O G P N ops l Q (put t dst v) H2):
 O G P N ops (⟨dst, .call ⟨.value (.func f),xs.toArray,ats⟩,ty,pos,after,some (j,want)⟩::l) Q t H:=MH hj hv hd (cW hx hc) (by rintro _ _ ⟨rfl,rfl⟩;exact k)
theorem vb {a b:Bool}(h:a=true↔b=true):Value.bool a=Value.bool b:=congrArg _ (Bool.eq_iff_iff.2 h)
theorem bq {a b:Bool}(h:a=true↔b=true):a=b:=Bool.eq_iff_iff.2 h
end
theorem e0_ {G:cK}{P:Program}{N:Nat}{Q:Post}{t:Tm}{H:cG}{ops:Array Oper}{dst:Option Tmp}{ty:TypeId}{pos:String}{after:Array Edge}{l:List Oper}{op:Op}{v:Value}(h:Ev G P ⟨dst,op,ty,pos,after,none⟩ t H v:=by first|exact mv|exact asn|exact exr|exact fla|exact ldv|exact iad|exact lnn|exact ilt|exact pkt|exact pkf|exact ixa|exact lds|exact nck|exact ieq|exact ine|exact nT|exact jn|exact isb|exact lel|exact ige|exact igt|exact k8|exact fle|exact ixs|exact ile|exact lfl|exact iml) (hd:fH N dst=true:=by exact rfl) (k:O G P N ops l Q (put t dst v) H):O G P N ops (⟨dst,op,ty,pos,after,none⟩::l) Q t H:=FX h hd k
theorem e1_ {G:cK}{P:Program}{N:Nat}{Q:Post}{t:Tm}{H:cG}{ops:Array Oper}{dst:Option Tmp}{ty:TypeId}{pos:String}{after:Array Edge}{l:List Oper}{op:Op}{v:Value}{j d:Nat}{want:Bool}(hj:(ops[j]?).bind (·.dst)=some d:=by exact rfl) (hv:look t d=some (.bool want):=by exact rfl) (h:Ev G P ⟨dst,op,ty,pos,after,some (j,want)⟩ t H v:=by first|exact mv|exact asn|exact exr|exact fla|exact ldv|exact iad|exact lnn|exact ilt|exact pkt|exact pkf|exact ixa|exact lds|exact nck|exact ieq|exact ine|exact nT|exact jn|exact isb|exact lel|exact ige|exact igt|exact k8|exact fle|exact ixs|exact ile|exact lfl|exact iml) (hd:fH N dst=true:=by exact rfl) (k:O G P N ops l Q (put t dst v) H):O G P N ops (⟨dst,op,ty,pos,after,some (j,want)⟩::l) Q t H:=sx hj hv hd h k
structure Hdn (Q:Prop):Prop where
 go:Q
theorem gk {P Q:Prop}(h:Hdn Q→P:=by
 intro k
 repeat (first
  |(with_reducible change O _ _ _ _ _ _ _ _);(first|refine e0_ (k:=?_)|refine on_ ?_|refine of_ (k:=?_)|refine sto (k:=?_)|refine e1_ (k:=?_)|refine ou_ (k:=?_))
  |(with_reducible change W _ _ _ _ _ _ _);(with_reducible first|refine ws_ ?_|refine wr_ ?_|refine wk_ ?_|refine we_ ?_|refine wt_ ?_|refine wb_ ?_)
  |(with_reducible first|refine qn_ ?_|refine bn_ ?_|refine qe_ ?_|refine le_ ?_|refine bh_ ?_|refine qr_ ?_|refine br_ ?_|refine lr_ ?_))
 exact k.go) (k:Q):P:=h ⟨k⟩
theorem go {P Q:Prop}(k:Q) (h:Hdn Q→P:=by refine fun k=> gk (k:=k.go)):P:=h ⟨k⟩
theorem sWk {G:cK}{P:Program}{H:cG}{f:FuncId}{fn:Func}{c:Code}{args:List Value}{K:Value→cG→Prop}{N:Nat}(hf:P.funcs[f]? =some fn) (hN:fn.ntmps=N) (h:W G P N c (HQ P fn (fun v H'=> ∃H'',cJ H' H''∧K v H'')) (rO 0 args) H) (hb:fn.body=some c:=by exact rfl) (hn:(fn.name== "runtime.NumGoroutine")=false:=by kernel_rfl) (hle:args.length≤N:=by exact Nat.le_of_ble_eq_true rfl):SC G P f args H K:=SC.out (Pm hf hb hN hn hle h)
theorem c0_ {G:cK}{P:Program}{N:Nat}{Q:Post}{t:Tm}{H:cG}{ops:Array Oper}{dst:Option Tmp}{ty:TypeId}{pos:String}{after:Array Edge}{l:List Oper}{f:FuncId}{xs:List Operand}{ats:Array TypeId}{K:Value→cG→Prop}(hx:qj t xs=some []) (hc:SC G P f [] H K) (hd:fH N dst=true:=by exact rfl) (k:∀v H',K v H'→O G P N ops l Q (put t dst v) H'):O G P N ops (⟨dst, .call ⟨.value (.func f),xs.toArray,ats⟩,ty,pos,after,none⟩::l) Q t H:=s_ (cW hx hc) hd k
theorem d0_ {G:cK}{P:Program}{N:Nat}{Q:Post}{t:Tm}{H:cG}{ops:Array Oper}{dst:Option Tmp}{ty:TypeId}{pos:String}{after:Array Edge}{l:List Oper}{f:FuncId}{xs:List Operand}{ats:Array TypeId}{v:Value}{H2:cG}(hx:qj t xs=some []) (hc:SC G P f [] H (fun u H'=> u=v∧H'=H2)) (hd:fH N dst=true:=by exact rfl) (k:O G P N ops l Q (put t dst v) H2):O G P N ops (⟨dst, .call ⟨.value (.func f),xs.toArray,ats⟩,ty,pos,after,none⟩::l) Q t H:=cp_ hx hc hd k
theorem c1_ {G:cK}{P:Program}{N:Nat}{Q:Post}{t:Tm}{H:cG}{ops:Array Oper}{dst:Option Tmp}{ty:TypeId}{pos:String}{after:Array Edge}{l:List Oper}{f:FuncId}{xs:List Operand}{ats:Array TypeId}{K:Value→cG→Prop}{a0:Value}(hx:qj t xs=some [a0]) (hc:SC G P f [a0] H K) (hd:fH N dst=true:=by exact rfl) (k:∀v H',K v H'→O G P N ops l Q (put t dst v) H'):O G P N ops (⟨dst, .call ⟨.value (.func f),xs.toArray,ats⟩,ty,pos,after,none⟩::l) Q t H:=s_ (cW hx hc) hd k
theorem d1_ {G:cK}{P:Program}{N:Nat}{Q:Post}{t:Tm}{H:cG}{ops:Array Oper}{dst:Option Tmp}{ty:TypeId}{pos:String}{after:Array Edge}{l:List Oper}{f:FuncId}{xs:List Operand}{ats:Array TypeId}{v:Value}{H2:cG}{a0:Value}(hx:qj t xs=some [a0]) (hc:SC G P f [a0] H (fun u H'=> u=v∧H'=H2)) (hd:fH N dst=true:=by exact rfl) (k:O G P N ops l Q (put t dst v) H2):O G P N ops (⟨dst, .call ⟨.value (.func f),xs.toArray,ats⟩,ty,pos,after,none⟩::l) Q t H:=cp_ hx hc hd k
theorem c2_ {G:cK}{P:Program}{N:Nat}{Q:Post}{t:Tm}{H:cG}{ops:Array Oper}{dst:Option Tmp}{ty:TypeId}{pos:String}{after:Array Edge}{l:List Oper}{f:FuncId}{xs:List Operand}{ats:Array TypeId}{K:Value→cG→Prop}{a0 a1:Value}(hx:qj t xs=some [a0,a1]) (hc:SC G P f [a0,a1] H K) (hd:fH N dst=true:=by exact rfl) (k:∀v H',K v H'→O G P N ops l Q (put t dst v) H'):O G P N ops (⟨dst, .call ⟨.value (.func f),xs.toArray,ats⟩,ty,pos,after,none⟩::l) Q t H:=s_ (cW hx hc) hd k
theorem d2_ {G:cK}{P:Program}{N:Nat}{Q:Post}{t:Tm}{H:cG}{ops:Array Oper}{dst:Option Tmp}{ty:TypeId}{pos:String}{after:Array Edge}{l:List Oper}{f:FuncId}{xs:List Operand}{ats:Array TypeId}{v:Value}{H2:cG}{a0 a1:Value}(hx:qj t xs=some [a0,a1]) (hc:SC G P f [a0,a1] H (fun u H'=> u=v∧H'=H2)) (hd:fH N dst=true:=by exact rfl) (k:O G P N ops l Q (put t dst v) H2):O G P N ops (⟨dst, .call ⟨.value (.func f),xs.toArray,ats⟩,ty,pos,after,none⟩::l) Q t H:=cp_ hx hc hd k
theorem c3_ {G:cK}{P:Program}{N:Nat}{Q:Post}{t:Tm}{H:cG}{ops:Array Oper}{dst:Option Tmp}{ty:TypeId}{pos:String}{after:Array Edge}{l:List Oper}{f:FuncId}{xs:List Operand}{ats:Array TypeId}{K:Value→cG→Prop}{a0 a1 a2:Value}(hx:qj t xs=some [a0,a1,a2]) (hc:SC G P f [a0,a1,a2] H K) (hd:fH N dst=true:=by exact rfl) (k:∀v H',K v H'→O G P N ops l Q (put t dst v) H'):O G P N ops (⟨dst, .call ⟨.value (.func f),xs.toArray,ats⟩,ty,pos,after,none⟩::l) Q t H:=s_ (cW hx hc) hd k
theorem d3_ {G:cK}{P:Program}{N:Nat}{Q:Post}{t:Tm}{H:cG}{ops:Array Oper}{dst:Option Tmp}{ty:TypeId}{pos:String}{after:Array Edge}{l:List Oper}{f:FuncId}{xs:List Operand}{ats:Array TypeId}{v:Value}{H2:cG}{a0 a1 a2:Value}(hx:qj t xs=some [a0,a1,a2]) (hc:SC G P f [a0,a1,a2] H (fun u H'=> u=v∧H'=H2)) (hd:fH N dst=true:=by exact rfl) (k:O G P N ops l Q (put t dst v) H2):O G P N ops (⟨dst, .call ⟨.value (.func f),xs.toArray,ats⟩,ty,pos,after,none⟩::l) Q t H:=cp_ hx hc hd k
end Go.Sx
