import Derived.Test.YtjhdcheijnegnaaGreatDoorQ5
import Derived.KernelRfl
set_option linter.all false
set_option maxHeartbeats 0
namespace Go.Sx
open Go
section
variable {G:cJ}{P:Program}{N:Nat}{Q:Post}{t:Tm}{H:cG}{ops:Array Oper}{dst:Option Tmp}{ty:TypeId}{pos:String}{after:Array Edge}{g:Option (Nat×Bool)}{l:List Oper}{op:Op}{v:Value}{j d:Nat}{want b:Bool}
theorem nrm {p q:Prop}(h:p) (k:p→q:=by intro h;first|(simp only[Xs,Xx,Vq,Uo,Xu,Ub,Ue,Vo,ne_eq,X5]at h;exact h)|exact h):q:=k h
theorem hsb {H H':cG}(h:cH H H':=by(repeat (first|exact cH.refl|apply Jz|apply cH.row|apply Jy|apply Hd|apply Hc|apply cH.rd|apply cH.rd' rfl|apply cH.nilRow|apply cH.mp|apply qh|apply wR|apply ur|apply Av|apply cH.drop))):cH H H':=h
theorem sbt {a t:Tm}(h:Sub a t:=by(repeat (first|exact Sub.nil|apply Sub.cons (by exact rfl)))):Sub a t:=h
theorem e_ (h:Ev G P ⟨dst,op,ty,pos,after,none⟩ t H v) (k:O G P N ops l Q (put t dst v) H) (hd:fC N dst=true:=by exact rfl):O G P N ops (⟨dst,op,ty,pos,after,none⟩::l) Q t H:=Fh h hd k
theorem eg_ (h:Ev G P ⟨dst,op,ty,pos,after,some (j,want)⟩ t H v) (k:O G P N ops l Q (put t dst v) H) (hj:(ops[j]?).bind (·.dst)=some d:=by exact rfl) (hv:look t d=some (.bool want):=by exact rfl) (hd:fC N dst=true:=by exact rfl):
 O G P N ops (⟨dst,op,ty,pos,after,some (j,want)⟩::l) Q t H:=rI hj hv hd h k
theorem of_ (k:O G P N ops l Q (put t dst undef) H) (hj:(ops[j]?).bind (·.dst)=some d:=by exact rfl) (hv:look t d=some (.bool !want):=by exact rfl) (hd:fC N dst=true:=by exact rfl):
 O G P N ops (⟨dst,op,ty,pos,after,some (j,want)⟩::l) Q t H:=Ff hj hv hd k
theorem ou_ (k:O G P N ops l Q (put t dst undef) H) (hj:(ops[j]?).bind (·.dst)=some d:=by exact rfl) (hv:look t d=some undef:=by exact rfl) (hd:fC N dst=true:=by exact rfl):
 O G P N ops (⟨dst,op,ty,pos,after,some (j,want)⟩::l) Q t H:=w6 hj hv hd k
theorem s_ {R:Value→cG→Prop}(h:St G P ⟨dst,op,ty,pos,after,none⟩ t H R) (k:∀v H',R v H'→O G P N ops l Q (put t dst v) H') (hd:fC N dst=true:=by exact rfl):O G P N ops (⟨dst,op,ty,pos,after,none⟩::l) Q t H:=xS h hd k
theorem sg_ {R:Value→cG→Prop}(h:St G P ⟨dst,op,ty,pos,after,some (j,want)⟩ t H R) (hj:(ops[j]?).bind (·.dst)=some d:=by exact rfl) (hv:look t d=some (.bool want):=by exact rfl) (hd:fC N dst=true:=by exact rfl) (k:∀v H',R v H'→O G P N ops l Q (put t dst v) H'):
 O G P N ops (⟨dst,op,ty,pos,after,some (j,want)⟩::l) Q t H:=LD hj hv hd h k
theorem cp_ {f:FuncId}{xs:List Operand}{a:Array TypeId}{vs:List Value}{b:cG}(hx:oP t xs=some vs) (hc:SC G P f vs H (λu c=>u=v∧c=b)) (k:O G P N ops l Q (put t dst v) b) (hd:fC N dst=true:=by exact rfl):
 O G P N ops (⟨dst,.call ⟨.value (.func f),xs.toArray,a⟩,ty,pos,after,none⟩::l) Q t H:=xS (dy hx hc) hd (by rintro _ _ ⟨rfl,rfl⟩;exact k)
theorem sp_ {p q:Prop}(h:Ev G P ⟨dst,op,ty,pos,after,none⟩ t H (.bool b)) (hd:fC N dst=true:=by exact rfl) (n1:b=true→p:=by intro h;first|(simp only[Xs,Xx,Vq,Uo,Xu,Ub,Ue,Vo,ne_eq,X5]at h;exact h)|exact h) (n2:b=false→q:=by intro h;first|(simp only[Xs,Xx,Vq,Uo,Xu,Ub,Ue,Vo,ne_eq,X5]at h;exact h)|exact h)
 (k:p→O G P N ops l Q (put t dst (.bool true)) H) (m:q→O G P N ops l Q (put t dst (.bool false)) H):O G P N ops (⟨dst,op,ty,pos,after,none⟩::l) Q t H:=Bc h hd (λh=>k (n1 h)) (λh=>m (n2 h))
theorem sr_ (h:Ev G P ⟨dst,op,ty,pos,after,none⟩ t H (.bool b)) (hd:fC N dst=true:=by exact rfl)
 (k:b=true→O G P N ops l Q (put t dst (.bool true)) H) (m:b=false→O G P N ops l Q (put t dst (.bool false)) H):O G P N ops (⟨dst,op,ty,pos,after,none⟩::l) Q t H:=Bc h hd k m
theorem pk {p q:Prop}(h:Ev G P ⟨dst,op,ty,pos,after,some (j,want)⟩ t H (.bool b)) (hj:(ops[j]?).bind (·.dst)=some d:=by exact rfl) (hv:look t d=some (.bool want):=by exact rfl) (hd:fC N dst=true:=by exact rfl) (n1:b=true→p:=by intro h;first|(simp only[Xs,Xx,Vq,Uo,Xu,Ub,Ue,Vo,ne_eq,X5]at h;exact h)|exact h) (n2:b=false→q:=by intro h;first|(simp only[Xs,Xx,Vq,Uo,Xu,Ub,Ue,Vo,ne_eq,X5]at h;exact h)|exact h)
 (k:p→O G P N ops l Q (put t dst (.bool true)) H) (m:q→O G P N ops l Q (put t dst (.bool false)) H):O G P N ops (⟨dst,op,ty,pos,after,some (j,want)⟩::l) Q t H:=zL hj hv h hd (λh=>k (n1 h)) (λh=>m (n2 h))
theorem wi_ {c:Operand}{x y:Code}{p q:Prop}(hc:evo t c=some (.bool b):=by exact rfl) (n1:b=true→p:=by intro h;first|(simp only[Xs,Xx,Vq,Uo,Xu,Ub,Ue,Vo,ne_eq,X5]at h;exact h)|exact h) (n2:b=false→q:=by intro h;first|(simp only[Xs,Xx,Vq,Uo,Xu,Ub,Ue,Vo,ne_eq,X5]at h;exact h)|exact h)
 (k:p→W G P N x Q t H) (m:q→W G P N y Q t H):W G P N (.cond c x y) Q t H:=w_if hc (λh=>k (n1 h)) (λh=>m (n2 h))
theorem ir_ {c:Operand}{x y:Code}(hc:evo t c=some (.bool b):=by exact rfl) (k:b=true→W G P N x Q t H) (m:b=false→W G P N y Q t H):W G P N (.cond c x y) Q t H:=w_if hc k m
theorem ift {c:Operand}{x y:Code}(hc:evo t c=some (.bool true):=by exact rfl) (k:W G P N x Q t H):W G P N (.cond c x y) Q t H:=BS hc k
theorem iff_ {c:Operand}{x y:Code}(hc:evo t c=some (.bool false):=by exact rfl) (k:W G P N y Q t H):W G P N (.cond c x y) Q t H:=zg hc k
theorem ws_ {x y:Code}(h:W G P N x (H3 G P N y Q) t H):W G P N (.seq x y) Q t H:=Dz h
theorem wb_ {a:Nat}{c:Code}(h:W G P N c (wS a Q) t H):W G P N (.block a c) Q t H:=Hl h
theorem wr_ {a:Nat}{l:List Oper}(h:O G P N l.toArray l Q t H):W G P N (.region a l.toArray false) Q t H:=DA h
theorem wt_ (h:Q .ret t H):W G P N .ret Q t H:=MO h
theorem we_ {a:Nat}(h:Q (.exit a) t H):W G P N (.exit a) Q t H:=Kg h
theorem wk_ (h:Q .normal t H):W G P N .skip Q t H:=Ke h
theorem on_ {ops:Array Oper}(h:Q .normal t H):O G P N ops [] Q t H:=Fg h
theorem qn_ {y:Code}(h:W G P N y Q t H):H3 G P N y Q .normal t H:=h
theorem qe_ {y:Code}{a:Nat}(h:Q (.exit a) t H):H3 G P N y Q (.exit a) t H:=h
theorem qr_ {y:Code}(h:Q .ret t H):H3 G P N y Q .ret t H:=h
theorem bn_ {a:Nat}(h:Q .normal t H):wS a Q .normal t H:=h
theorem br_ {a:Nat}(h:Q .ret t H):wS a Q .ret t H:=h
theorem bh_ {a:Nat}(h:Q .normal t H):wS a Q (.exit a) t H:=Qt h
section
variable {α:Type}{I:α→Prop}{fr:α→Tm}{hp:α→cG}{μ:α→Nat}{x:α}
theorem ln_ (y:α) (h2:μ y<μ x:=by(try dsimp only);omega) (h3:Sub (fr y) t:=by(try dsimp only[Yd,Ye]);exact sbt) (h4:cH H (hp y):=by(try dsimp only[Yd,Ye]);exact hsb) (k:I y):qf I fr hp μ x Q .normal t H:=⟨y,k,h2,h3,h4⟩
theorem lN (y:α) (k:I y) (h2:μ y<μ x:=by(try dsimp only);omega) (h3:Sub (fr y) t:=by(try dsimp only[Yd,Ye]);exact sbt) (h4:cH H (hp y):=by(try dsimp only[Yd,Ye]);exact hsb):qf I fr hp μ x Q .normal t H:=ln_ y h2 h3 h4 k
theorem le_ {a:Nat}(h:Q (.exit a) t H):qf I fr hp μ x Q (.exit a) t H:=h
theorem lr_ (h:Q .ret t H):qf I fr hp μ x Q .ret t H:=h
end
theorem wl_ {c:Code}(α:Type) (I:α→Prop) (fr:α→Tm) (hp:α→cG) (μ:α→Nat) (x0:α) (hs:Sub (fr x0) t:=by exact sbt) (hh:cH H (hp x0):=by(try dsimp only);exact hsb) (h0:I x0)
 (k:∀x,I x→W G P N c (qf I fr hp μ x Q) (fr x) (hp x)):W G P N (.loop c) Q t H:=w_loop α I fr hp μ x0 h0 hs hh k
theorem wl2_ {c:Code}(α:Type) (I:α→Prop) (fr:α→Tm) (a:Tm) (hp:α→cG) (hc:cG) (μ:α→Nat) (x0:α) (hs:Sub (fr x0++a) t:=by(try dsimp only[Yd,Ye]);exact sbt) (hh:cH H (hp x0++hc):=by(try dsimp only[Yd,Ye]);exact hsb) (h0:I x0)
 (k:∀x,I x→W G P N c (qf I (λx=>fr x++a) (λx=>hp x++hc) μ x Q) (fr x++a) (hp x++hc)):W G P N (.loop c) Q t H:=w_loop α I (λx=>fr x++a) (λx=>hp x++hc) μ x0 h0 hs hh k
theorem PK {r:Tmp}{T:TypeId}{b:Nat}{v:Value}{rs:List ResultVar}{vs:List Value}(h:look t r=some (.pointer (some ⟨b,0,none⟩))) (hT:One P T) (hH:cY H b [v]) (k:mZ P t H rs vs):mZ P t H (.cell r T::rs) (v::vs):=.cons (.cell1 h) k
theorem rvc {r:Tmp}{T:TypeId}{b n:Nat}{cs:List Value}{rs:List ResultVar}{vs:List Value}(h:look t r=some (.pointer (some ⟨b,0,none⟩))) (hT:Agg P T n) (hH:cY H b cs) (a:cs.length=n) (k:mZ P t H rs vs):mZ P t H (.cell r T::rs) (.agg cs.toArray::vs):=.cons (.cell h a) k
theorem rt_ {b:Func}{K:Value→cG→Prop}{e:Exit}{rs:List ResultVar}{vs:List Value}(a:b.results=rs.toArray) (he:e=.normal∨e=.ret:=by first|exact .inr rfl|exact .inl rfl) (hr:mZ P t H rs vs:=by(repeat (first|exact mZ.nil|apply mZ.cons (.tmp rfl)|apply PK (by exact rfl) (by infer_instance) (by infer_instance)|apply rvc (by exact rfl) (by infer_instance) (by infer_instance) (by exact rfl)))) (k:K (nq vs) H):As P b K e t H:=Cs a he hr k
section
variable {loud:Nat→Bool}{F:Nat→cG→Prop}{fuel:Nat}{listed:Array Bool}
theorem af_ (i:Nat) (hi:ops[i]? =some ⟨dst,op,ty,pos,after,none⟩:=by exact rfl) (hl:loud i=false:=by exact rfl) (a:jF ops listed i=true:=by kernel_rfl) (hd:fC N dst=true:=by exact rfl) (q:Qv G P (F i) ⟨dst,op,ty,pos,after,none⟩ t v) (k:An G P N ops loud F Q fuel (listed.setIfInBounds i true) (put t dst v) H):An G P N ops loud F Q (fuel+1) listed t H:=cO i hi hl a hd q k
theorem ag_ (i:Nat) (hi:ops[i]? =some ⟨dst,op,ty,pos,after,some (j,want)⟩:=by exact rfl) (hj:(ops[j]?).bind (·.dst)=some d:=by exact rfl) (hv:look t d=some (.bool want):=by exact rfl) (hl:loud i=false:=by exact rfl) (a:jF ops listed i=true:=by kernel_rfl) (hd:fC N dst=true:=by exact rfl)
 (q:Qv G P (F i) ⟨dst,op,ty,pos,after,some (j,want)⟩ t v) (k:An G P N ops loud F Q fuel (listed.setIfInBounds i true) (put t dst v) H):An G P N ops loud F Q (fuel+1) listed t H:=fg i hi hj hv hl a hd q k
theorem ao_ (i:Nat) (hi:ops[i]? =some ⟨dst,op,ty,pos,after,some (j,want)⟩:=by exact rfl) (hj:(ops[j]?).bind (·.dst)=some d:=by exact rfl) (hv:look t d=some (.bool !want):=by exact rfl) (hl:loud i=false:=by exact rfl) (a:jF ops listed i=true:=by kernel_rfl) (hd:fC N dst=true:=by exact rfl)
 (k:An G P N ops loud F Q fuel (listed.setIfInBounds i true) (put t dst undef) H):An G P N ops loud F Q (fuel+1) listed t H:=MH i hi hj hv hl a hd k
end
section
variable {fuel:Nat}{listed:Array Bool}{H0:cG}
theorem as_ (i:Nat) (hi:ops[i]? =some ⟨dst,op,ty,pos,after,none⟩:=by exact rfl) (a:jF ops listed i=true:=by kernel_rfl) (hd:fC N dst=true:=by exact rfl) (q:Ev G P ⟨dst,op,ty,pos,after,none⟩ t H0 v) (k:An G P N ops ph (at_ H0) Q fuel (listed.setIfInBounds i true) (put t dst v) H):An G P N ops ph (at_ H0) Q (fuel+1) listed t H:=cO i hi rfl a hd (df q) k
theorem at2 (i:Nat) (hi:ops[i]? =some ⟨dst,op,ty,pos,after,some (j,want)⟩:=by exact rfl) (hj:(ops[j]?).bind (·.dst)=some d:=by exact rfl) (hv:look t d=some (.bool want):=by exact rfl) (a:jF ops listed i=true:=by kernel_rfl) (hd:fC N dst=true:=by exact rfl)
 (q:Ev G P ⟨dst,op,ty,pos,after,some (j,want)⟩ t H0 v) (k:An G P N ops ph (at_ H0) Q fuel (listed.setIfInBounds i true) (put t dst v) H):An G P N ops ph (at_ H0) Q (fuel+1) listed t H:=fg i hi hj hv rfl a hd (df q) k
theorem az_ (hr:(Region.ready .any ops listed).isEmpty=true:=by kernel_rfl) (k:Q .normal t H0):An G P N ops ph (at_ H0) Q 0 listed t H0:=GR hr (λ_ _=>rfl) k
end
end
section
variable {G:cJ}{P:Program}{t:Tm}{H:cG}{dst:Option Tmp}{ty:TypeId}{pos:String}{after:Array Edge}{g:Option (Nat×Bool)}
theorem mv {x:Operand}{v:Value}(hx:evo t x=some v:=by exact rfl):Ev G P ⟨dst,.move x,ty,pos,after,g⟩ t H v:=J4 hx
theorem asn {x:Operand}{v:Value}(hx:evo t x=some v:=by exact rfl):Ev G P ⟨dst,.assign x,ty,pos,after,g⟩ t H v:=vj hx
theorem asv {x:Operand}{u v:Value}(hx:evo t x=some u) (h:u=v):Ev G P ⟨dst,.assign x,ty,pos,after,g⟩ t H v:=h ▸ vj hx
theorem exr {x:Operand}{i:Nat}{vs:Array Value}{v:Value}(hx:evo t x=some (.tuple vs):=by exact rfl) (hv:vs.toList[i]? =some v:=by exact rfl):Ev G P ⟨dst,.extract x i,ty,pos,after,g⟩ t H v:=yn hx hv
theorem nck {x:Operand}{a:Addr}(hx:evo t x=some (.pointer (some a)):=by exact rfl):Ev G P ⟨dst,.nilCheck x,ty,pos,after,g⟩ t H (.pointer (some a)):=yi hx
theorem pkt {a b c:Operand}{d:Value}(hc:evo t c=some (.bool true):=by exact rfl) (ha:evo t a=some d:=by exact rfl):Ev G P ⟨dst,.pick c a b,ty,pos,after,g⟩ t H d:=qJ hc ha
theorem pkf {a b c:Operand}{vb:Value}(hc:evo t c=some (.bool false):=by exact rfl) (d:evo t b=some vb:=by exact rfl):Ev G P ⟨dst,.pick c a b,ty,pos,after,g⟩ t H vb:=qK hc d
section
variable {T U:TypeId}{x y:Operand}{k:IntKind}{a b:Int}
theorem ilt (hx:evo t x=some (.int k a):=by exact rfl) (hy:evo t y=some (.int k b):=by exact rfl):Ev G P ⟨dst,.binOp .lss T x y U,ty,pos,after,g⟩ t H (.bool (decide (a<b))):=Mm hx hy
theorem ile (hx:evo t x=some (.int k a):=by exact rfl) (hy:evo t y=some (.int k b):=by exact rfl):Ev G P ⟨dst,.binOp .leq T x y U,ty,pos,after,g⟩ t H (.bool (decide (a≤b))):=Mn hx hy
theorem igt (hx:evo t x=some (.int k a):=by exact rfl) (hy:evo t y=some (.int k b):=by exact rfl):Ev G P ⟨dst,.binOp .gtr T x y U,ty,pos,after,g⟩ t H (.bool (decide (b<a))):=Mq hx hy
theorem ige (hx:evo t x=some (.int k a):=by exact rfl) (hy:evo t y=some (.int k b):=by exact rfl):Ev G P ⟨dst,.binOp .geq T x y U,ty,pos,after,g⟩ t H (.bool (decide (b≤a))):=Mr hx hy
theorem ieq (hx:evo t x=some (.int k a):=by exact rfl) (hy:evo t y=some (.int k b):=by exact rfl):Ev G P ⟨dst,.binOp .eql T x y U,ty,pos,after,g⟩ t H (.bool (decide (a=b))):=Ms hx hy
theorem ine (hx:evo t x=some (.int k a):=by exact rfl) (hy:evo t y=some (.int k b):=by exact rfl):Ev G P ⟨dst,.binOp .neq T x y U,ty,pos,after,g⟩ t H (.bool (decide (a≠b))):=Mk hx hy
theorem iad (hx:evo t x=some (.int .i64 a):=by exact rfl) (hy:evo t y=some (.int .i64 b):=by exact rfl) (h: -9223372036854775808≤a+b∧a+b≤9223372036854775807:=by omega):Ev G P ⟨dst,.binOp .add T x y U,ty,pos,after,g⟩ t H (.int .i64 (a+b)):=wE hx hy h
theorem isb (hx:evo t x=some (.int .i64 a):=by exact rfl) (hy:evo t y=some (.int .i64 b):=by exact rfl) (h: -9223372036854775808≤a-b∧a-b≤9223372036854775807:=by omega):Ev G P ⟨dst,.binOp .sub T x y U,ty,pos,after,g⟩ t H (.int .i64 (a-b)):=Gj hx hy h
theorem iml (hx:evo t x=some (.int .i64 a):=by exact rfl) (hy:evo t y=some (.int .i64 b):=by exact rfl) (h: -9223372036854775808≤a*b∧a*b≤9223372036854775807:=by omega):Ev G P ⟨dst,.binOp .mul T x y U,ty,pos,after,g⟩ t H (.int .i64 (a*b)):=Ml hx hy h
end
theorem jq {T:TypeId}{x:Operand}{b:Bool}(hx:evo t x=some (.bool b):=by exact rfl):Ev G P ⟨dst,.unOp .not T x,ty,pos,after,g⟩ t H (.bool !b):=Mj hx
theorem ldv {T:TypeId}{x:Operand}{b off:Nat}{l:List Value}{v:Value}(hx:evo t x=some (.pointer (some ⟨b,off,none⟩)):=by exact rfl) (hT:One P T:=by infer_instance) (hH:cY H b l:=by infer_instance) (hc:Cut l off 1 [v]:=by infer_instance):Ev G P ⟨dst,.load T x,ty,pos,after,g⟩ t H v:=J5 hx
theorem lds {T:TypeId}{x:Operand}{b off n:Nat}{l cs:List Value}(hx:evo t x=some (.pointer (some ⟨b,off,none⟩)):=by exact rfl) (hT:Agg P T n:=by infer_instance) (hH:cY H b l:=by infer_instance) (hc:Cut l off n cs:=by infer_instance):Ev G P ⟨dst,.load T x,ty,pos,after,g⟩ t H (.agg cs.toArray):=Gl hx
theorem fla {T:TypeId}{x:Operand}{k b o off o':Nat}(hx:evo t x=some (.pointer (some ⟨b,o,none⟩)):=by exact rfl) (hf:Fld P T k off:=by infer_instance) (ha:wU o off o':=by infer_instance):Ev G P ⟨dst,.fieldAddr T x k,ty,pos,after,g⟩ t H (.pointer (some ⟨b,o',none⟩)):=wC hx
theorem fle {T:TypeId}{x:Operand}{s:SV}{k sz i o off o':Nat}{α:Type}{e:Enc α}{xs:List α}(hx:evo t x=some (.pointer (s.elt sz i o)):=by exact rfl) (hs:Sl H s e xs:=by infer_instance) (hf:Fld P T k off:=by infer_instance) (ha:wU o off o':=by infer_instance) (hlt:i<xs.length:=by omega):Ev G P ⟨dst,.fieldAddr T x k,ty,pos,after,g⟩ t H (.pointer (s.elt sz i o')):=qL hx hlt
theorem ixa {x a:Operand}{T E:TypeId}{s:SV}{α:Type}{e:Enc α}{xs:List α}{sz bb:Nat}{z:Value}{k:IntKind}{j:Int}{i:Nat}(hx:evo t x=some s.val:=by exact rfl) (hi:evo t a=some (.int k j):=by exact rfl) (hT:Und P T (.slice E):=by infer_instance) (hE:Inf P E sz bb z:=by infer_instance) (hs:Sl H s e xs:=by infer_instance) (hj:j=i:=by first|exact rfl|exact xN a8|exact Cz a8|exact Cy a8|exact Cx a8|exact(Int.toNat_of_nonneg a8).symm) (hlt:i<xs.length:=by omega):Ev G P ⟨dst,.indexAddr T x a,ty,pos,after,g⟩ t H (.pointer (s.elt sz i 0)):=cV hx hi i hj hlt
def at0 (s:List Nat) (i:Nat):Nat:=s.getD i 0
theorem xN {i:Nat}(h:1≤i):(i:Int)-1=((i-1:Nat):Int):=a8
theorem Cz {i:Nat}(h:2≤i):(i:Int)-2=((i-2:Nat):Int):=a8
theorem Cy {i:Nat}(h:3≤i):(i:Int)-3=((i-3:Nat):Int):=a8
theorem Cx {i k:Nat}(h:k≤i):(i:Int)-(k:Int)=((i-k:Nat):Int):=a8
theorem ixs {T:TypeId}{x a:Operand}{s:ByteArray}{k:IntKind}{j:Int}{i:Nat}(hx:evo t x=some (.string s):=by exact rfl) (hi:evo t a=some (.int k j):=by exact rfl) (hT:Und P T .string:=by infer_instance) (hj:j=((i:Nat):Int):=by first|exact rfl|exact xN a8|exact Cz a8|exact Cy a8|exact Cx a8|exact(Int.toNat_of_nonneg a8).symm) (hlt:i<(cF s).length:=by first|omega|(simp only[cI];omega)):
 Ev G P ⟨dst,.index T x a,ty,pos,after,g⟩ t H (.int .u8 ((at0 (cF s) i:Nat):Int)):=mO hx hi i hj _ (by rw[at0,Xm,Yi hlt];rfl)
theorem zw {T:TypeId}{x o:Operand}{s:ByteArray}{k:IntKind}{j:Int}{a:Nat}(hx:evo t x=some (.string s):=by exact rfl) (b:evo t o=some (.int k j):=by exact rfl) (hT:Und P T .string:=by infer_instance) (hj:j=((a:Nat):Int):=by first|exact rfl|exact xN a8|exact Cz a8|exact Cy a8|exact Cx a8|exact(Int.toNat_of_nonneg a8).symm) (h1:a≤s.size:=by omega):
 Ev G P ⟨dst,.slice T x (some o) none none,ty,pos,after,g⟩ t H (.string (s.extract a s.size)):=jl hx a s.size ⟨k,j,b,hj⟩ rfl h1 (Xj _)
theorem oF {T:TypeId}{x o:Operand}{s:ByteArray}{k:IntKind}{j:Int}{b:Nat}(hx:evo t x=some (.string s):=by exact rfl) (a:evo t o=some (.int k j):=by exact rfl) (hT:Und P T .string:=by infer_instance) (hj:j=((b:Nat):Int):=by first|exact rfl|exact xN a8|exact Cz a8|exact Cy a8|exact Cx a8|exact(Int.toNat_of_nonneg a8).symm) (h1:b≤s.size:=by omega):
 Ev G P ⟨dst,.slice T x none (some o) none,ty,pos,after,g⟩ t H (.string (s.extract 0 b)):=jl hx 0 b rfl ⟨k,j,a,hj⟩ (Yl _) h1
theorem PF {T:TypeId}{x o p:Operand}{s:ByteArray}{k k':IntKind}{j c:Int}{a b:Nat}(hx:evo t x=some (.string s):=by exact rfl) (e:evo t o=some (.int k j):=by exact rfl) (hp:evo t p=some (.int k' c):=by exact rfl) (hT:Und P T .string:=by infer_instance) (hj:j=((a:Nat):Int):=by first|exact rfl|exact xN a8|exact Cz a8|exact Cy a8|exact Cx a8|exact(Int.toNat_of_nonneg a8).symm) (d:c=((b:Nat):Int):=by first|exact rfl|exact xN a8|exact Cz a8|exact Cy a8|exact Cx a8|exact(Int.toNat_of_nonneg a8).symm) (h1:a≤b:=by omega) (h2:b≤s.size:=by omega):
 Ev G P ⟨dst,.slice T x (some o) (some p) none,ty,pos,after,g⟩ t H (.string (s.extract a b)):=jl hx a b ⟨k,j,e,hj⟩ ⟨k',c,hp,d⟩ h1 h2
theorem np {T U:TypeId}{x y:Operand}{a b:ByteArray}(hx:evo t x=some (.string a):=by exact rfl) (hy:evo t y=some (.string b):=by exact rfl):Ev G P ⟨dst,.binOp .eql T x y U,ty,pos,after,g⟩ t H (.bool (decide (cF a=cF b))):=mP hx hy
theorem Ic {T U:TypeId}{x y:Operand}{a b:ByteArray}(hx:evo t x=some (.string a):=by exact rfl) (hy:evo t y=some (.string b):=by exact rfl):Ev G P ⟨dst,.binOp .neq T x y U,ty,pos,after,g⟩ t H (.bool (!decide (cF a=cF b))):=tG hx hy
theorem xC {T U:TypeId}{x y:Operand}{a b:ByteArray}(hx:evo t x=some (.string a):=by exact rfl) (hy:evo t y=some (.string b):=by exact rfl) (h:a.size+b.size≤9223372036854775807:=by omega):Ev G P ⟨dst,.binOp .add T x y U,ty,pos,after,g⟩ t H (.string (a++b)):=gU hx hy h
theorem lel {T:TypeId}{x:Operand}{s:SV}{i sz:Nat}{v:Value}{α:Type}{e:Enc α}{xs:List α}{y:α}(hx:evo t x=some (.pointer (s.elt sz i 0)):=by exact rfl) (hT:One P T:=by infer_instance) (hs:Sl H s e xs:=by infer_instance) (a:e.sz=sz:=by exact rfl) (ha:e.agg=false:=by exact rfl) (hy:xs[i]? =some y:=by first|assumption|rfl|exact Yi a8) (hv:kX e y v:=by infer_instance):Ev G P ⟨dst,.load T x,ty,pos,after,g⟩ t H v:=dS hx a ha y hy
theorem od {T:TypeId}{x:Operand}{s:SV}{i sz:Nat}{v:Value}{α:Type}{e:Enc α}{xs:List α}{y:α}(hx:evo t x=some (.pointer (s.elt sz i 0)):=by exact rfl) (hT:Agg P T sz:=by infer_instance) (hs:Sl H s e xs:=by infer_instance) (a:e.sz=sz:=by exact rfl) (ha:e.agg=true:=by exact rfl) (hy:xs[i]? =some y:=by first|assumption|rfl|exact Yi a8) (hv:kX e y v:=by infer_instance):Ev G P ⟨dst,.load T x,ty,pos,after,g⟩ t H v:=yl hx a ha y hy
theorem lfl {T:TypeId}{x:Operand}{s:SV}{i o sz:Nat}{v:Value}{α:Type}{e:Enc α}{xs:List α}{y:α}(hx:evo t x=some (.pointer (s.elt sz i o)):=by exact rfl) (hT:One P T:=by infer_instance) (hs:Sl H s e xs:=by infer_instance) (a:e.sz=sz:=by exact rfl) (hy:xs[i]? =some y:=by first|assumption|rfl|exact Yi a8) (hc:(e.f y)[o]? =some v:=by exact rfl):Ev G P ⟨dst,.load T x,ty,pos,after,g⟩ t H v:=oQ hx a y hy hc
theorem PV {T:TypeId}{x:Operand}{s:SV}{i o n sz:Nat}{l cs:List Value}{α:Type}{e:Enc α}{xs:List α}{y:α}(hx:evo t x=some (.pointer (s.elt sz i o)):=by exact rfl) (hT:Agg P T n:=by infer_instance) (hs:Sl H s e xs:=by infer_instance) (a:e.sz=sz:=by exact rfl) (hy:xs[i]? =some y:=by first|assumption|rfl|exact Yi a8) (hl:e.f y=l:=by exact rfl) (hc:Cut l o n cs:=by infer_instance):Ev G P ⟨dst,.load T x,ty,pos,after,g⟩ t H (.agg cs.toArray):=yk hx a y hy hl
theorem bld {T:TypeId}{ps:List (Nat×Operand)}{a:List (Nat×Nat)}{z l:List Value}(vs:List (Nat×Value)) (hp:qI t ps=some vs:=by exact rfl) (hs:Str P T a z:=by infer_instance) (hf:Fil a z vs l:=by infer_instance):Ev G P ⟨dst,.build T ps.toArray,ty,pos,after,g⟩ t H (.agg l.toArray):=Gq (vs:=vs) hp
theorem lnn {x:Operand}{T E:TypeId}{s:SV}{α:Type}{e:Enc α}{xs:List α}(hx:evo t x=some s.val:=by exact rfl) (hT:Und P T (.slice E):=by infer_instance) (hs:Sl H s e xs:=by infer_instance):Ev G P ⟨dst,.call ⟨.builtin .len, #[x], #[T]⟩,ty,pos,after,g⟩ t H (.int .i64 ((xs.length:Nat):Int)):=J7 hx
theorem oe {x:Operand}{T:TypeId}{s:ByteArray}(hx:evo t x=some (.string s):=by exact rfl) (hT:Und P T .string:=by infer_instance):Ev G P ⟨dst,.call ⟨.builtin .len, #[x], #[T]⟩,ty,pos,after,g⟩ t H (.int .i64 ((s.size:Nat):Int)):=ym hx
end
section
variable {G:cJ}{P:Program}{N:Nat}{Q:Post}{t:Tm}{H:cG}{ops:Array Oper}{dst:Option Tmp}{ty:TypeId}{pos:String}{after:Array Edge}{l:List Oper}
theorem alc {T:TypeId}{s bb:Nat}{z:Value}{cs:List Value}(hT:Inf P T s bb z:=by infer_instance) (hv:n4 z cs:=by infer_instance) (hd:fC N dst=true:=by exact rfl) (k:∀b,O G P N ops l Q (put t dst (.pointer (some ⟨b,0,none⟩))) (Vr b cs::H)):O G P N ops (⟨dst,.alloc T,ty,pos,after,none⟩::l) Q t H:=xS ef hd (by rintro _ _ ⟨b,rfl,rfl⟩;exact k b)
theorem bxx {T:TypeId}{x:Operand}{v:Value}{cs:List Value}(hx:evo t x=some v:=by exact rfl) (hv:n4 v cs:=by infer_instance) (hd:fC N dst=true:=by exact rfl) (k:∀b,O G P N ops l Q (put t dst (.pointer (some ⟨b,0,none⟩))) (Vr b cs::H)):O G P N ops (⟨dst,.box T x,ty,pos,after,none⟩::l) Q t H:=xS (sJ hx) hd (by rintro _ _ ⟨b,rfl,rfl⟩;exact k b)
theorem sto {T:TypeId}{x y:Operand}{b off s bb:Nat}{z v:Value}{a l' cs:List Value}{C:Hp→cG}(hx:evo t x=some (.pointer (some ⟨b,off,none⟩)):=by exact rfl) (hy:evo t y=some v:=by exact rfl)
 (hT:Inf P T s bb z:=by infer_instance) (hv:n4 v cs:=by infer_instance) (hf:Foc H Vr b a C:=by infer_instance) (hl:Spl a off cs l':=by infer_instance) (hs:cs.length=s:=by exact rfl) (hd:fC N dst=true:=by exact rfl) (k:O G P N ops l Q (put t dst undef) (C (Vr b l'))):O G P N ops (⟨dst,.store T x y,ty,pos,after,none⟩::l) Q t H:=xS (db hx hy hs) hd (by rintro _ _ ⟨rfl,rfl⟩;exact k)
theorem app {T T2 E E2:TypeId}{x y:Operand}{s s2:SV}{sz bb:Nat}{z:Value}{α:Type}{e:Enc α}{xs ys:List α}{C:Hp→cG}(hx:evo t x=some s.val:=by exact rfl) (hy:evo t y=some s2.val:=by exact rfl) (hT:Und P T (.slice E):=by infer_instance) (hT2:Und P T2 (.slice E2):=by infer_instance) (hE:Inf P E sz bb z:=by infer_instance) (hf:mc H s e xs C:=by infer_instance) (hs:Sl H s2 e ys:=by infer_instance)
 (c:sz=e.sz:=by exact rfl) (b:z.cells.size=sz:=by exact rfl) (hlim:(xs.length+ys.length)*bb≤140737488355328:=by first|omega|(simp only[Ya,Yb,Yc];omega)|(simp;omega)) (hlim2:xs.length+ys.length≤140737488355328:=by first|omega|(simp only[Ya,Yb,Yc];omega)|(simp;omega)) (hd:fC N dst=true:=by exact rfl)
 (k:∀a:SV,O G P N ops l Q (put t dst a.val) (C (Row a e (xs++ys)))):O G P N ops (⟨dst,.call ⟨.builtin .append, #[x,y], #[T,T2]⟩,ty,pos,after,none⟩::l) Q t H:=xS (fw hx hy c b hlim hlim2) hd (by rintro _ _ ⟨a,rfl,rfl⟩;exact k a)
theorem fX {T E:TypeId}{sz bb:Nat}{z:Value}{d:Value}{x1:Operand}{α:Type}(e:Enc α) {c:α}(a:evo t x1=some d:=by exact rfl) (hT:Und P T (.slice E):=by infer_instance) (hE:Inf P E sz bb z:=by infer_instance) (hv1:i6 e d c:=by infer_instance) (b:sz=e.sz:=by exact rfl) (hd:fC N dst=true:=by exact rfl) (k:∀s:SV,O G P N ops l Q (put t dst s.val) (Row s e [c]::H)):
 O G P N ops (⟨dst,.buildSlice T 1 #[(0,x1)],ty,pos,after,none⟩::l) Q t H:=xS (eC e a b) hd (by rintro _ _ ⟨f,rfl,rfl⟩;exact k f)
end
end Go.Sx
namespace Go.Sx
open Go
theorem vI {G:cJ}{P:Program}{ops:Array Oper}{loud:Nat→Bool}{F:Nat→cG→Prop}{K:Act→cG→Prop}{H0:cG}(b:∀i,F i H0):∀(fuel:Nat) (listed:Array Bool) (a:Act) (H:cG),nL G P ops ph (at_ H0) K fuel listed a H→nL G P ops loud F K fuel listed a H
 | 0,listed,a,H,h=>by
  obtain rfl:H=H0:=h.1 0 (λ_ _ _ hl=>by cases hl);exact⟨λi _=>b i,h.2⟩
 |fuel+1,listed,a,H,h=>by
  obtain rfl:H=H0:=h.1 0 (λ_ _ _ hl=>by cases hl);exact⟨λi _=>b i,h.2.1,λi hi=>(h.2.2 i hi).mono λa H h=>vI b fuel _ a H h⟩
theorem qa {G:cJ}{P:Program}{N:Nat}{Q:Post}{ops:Array Oper}{loud:Nat→Bool}{F:Nat→cG→Prop}{fuel:Nat}{listed:Array Bool}{t:Tm}{H:cG}(b:∀i,F i H) (h:An G P N ops ph (at_ H) Q fuel listed t H):An G P N ops loud F Q fuel listed t H:=
 ⟨λa ha=>vI b _ _ _ _ (h.go a ha)⟩
theorem rn {G:cJ}{P:Program}{N:Nat}{Q:Post}{t:Tm}{H:cG}{ops:Array Oper}{loud:Nat→Bool}{F:Nat→cG→Prop}{fuel:Nat}{listed:Array Bool}{dst:Option Tmp}{op:Op}{ty:TypeId}{pos:String}{after:Array Edge}{k d:Nat}{want:Bool}(i:Nat) (hi:ops[i]? =some ⟨dst,op,ty,pos,after,some (k,want)⟩) (hk:(ops[k]?).bind (·.dst)=some d) (hv:look t d=some (.bool !want)) (hr:Region.ready .any ops listed= [i]) (hd:fC N dst=true)
 (hF:∀i,qg ops loud i listed→F i H) (h:An G P N ops loud F Q fuel (listed.setIfInBounds i true) (put t dst undef) H):An G P N ops loud F Q (fuel+1) listed t H:=
 ⟨λa ha=>⟨hF,λh0=>(bH),λj hj=>by
  rw[hr]at hj;obtain rfl:j=i:=by simpa using hj
  unfold OpK;simp only[hi];rw[if_neg (cy)];exact h.go _ (ha.put hd undef)⟩⟩
theorem OJ {G:cJ}{P:Program}{N:Nat}{Q:Post}{t:Tm}{H:cG}{ops:Array Oper}{loud:Nat→Bool}{F:Nat→cG→Prop}{fuel:Nat}{listed:Array Bool}{dst:Option Tmp}{op:Op}{ty:TypeId}{pos:String}{after:Array Edge}{j d:Nat}{want:Bool}(i:Nat) (hi:ops[i]? =some ⟨dst,op,ty,pos,after,some (j,want)⟩:=by exact rfl) (hj:(ops[j]?).bind (·.dst)=some d:=by exact rfl) (hv:look t d=some undef:=by exact rfl) (hl:loud i=false:=by exact rfl) (a:jF ops listed i=true:=by kernel_rfl) (hd:fC N dst=true:=by exact rfl)
 (k:An G P N ops loud F Q fuel (listed.setIfInBounds i true) (put t dst undef) H):An G P N ops loud F Q (fuel+1) listed t H:=
 q9 hi hl a hd (λ_ ha=>.inr ⟨p8 (o:=⟨dst,op,ty,pos,after,some (j,want)⟩) ha rfl hj hv,rfl⟩) k
theorem yW {G:cJ}{P:Program}{N:Nat}{Q:Post}{t:Tm}{H:cG}{ops:Array Oper}{loud:Nat→Bool}{F:Nat→cG→Prop}{fuel:Nat}{listed:Array Bool}{dst:Option Tmp}{op:Op}{ty:TypeId}{pos:String}{after:Array Edge}{j d:Nat}{want b:Bool}(i:Nat) (hi:ops[i]? =some ⟨dst,op,ty,pos,after,some (j,want)⟩) (hj:(ops[j]?).bind (·.dst)=some d) (hv:look t d=some (.bool want)) (hl:loud i=false) (c:jF ops listed i=true) (hd:fC N dst=true)
 (a:Qv G P (F i) ⟨dst,op,ty,pos,after,some (j,want)⟩ t (.bool b)) (h1:b=true→An G P N ops loud F Q fuel (listed.setIfInBounds i true) (put t dst (.bool true)) H) (h2:b=false→An G P N ops loud F Q fuel (listed.setIfInBounds i true) (put t dst (.bool false)) H):An G P N ops loud F Q (fuel+1) listed t H:=by
 cases b with
 |true=>exact fg i hi hj hv hl c hd a (h1 rfl)
 |false=>exact fg i hi hj hv hl c hd a (h2 rfl)
section
variable {G:cJ}{P:Program}{N:Nat}{Q:Post}{t:Tm}{H:cG}{ops:Array Oper}
theorem BW {o:Oper}{a:Act}{K d:Act→World→Prop}{Q1 c:Exit→Act→World→Prop}(hk:∀a w,K a w→d a w) (b:∀e a w,e≠ .normal→Q1 e a w→c e a w) {r:Result Next}(h:o.upon P a K Q1 r):o.upon P a d c r:=by
 have hl:LetsOut Q1→LetsOut c:=λ⟨a,w,h⟩=>⟨a,w,b _ _ _ ak h⟩;cases r with
 |ok n w=>
  cases n <;> simp only[Oper.upon]at h⊢
  case value=>exact hk _ _ h
  case skip=>exact hk _ _ h
  case defer=>exact hk _ _ h
  case enter=>
   refine h.mono λe f he=>?_;cases e with
   |returned v=>exact hk _ _ he
   |panicked ch=>exact b _ _ _ ak he
   |outgrown=>exact hl he
  case row=>exact h.mono λv f he=>hk _ _ he
 |halt x w=>
  cases x <;> simp only[Oper.upon]at h⊢
  all_goals exact b _ _ _ ak h
theorem oA {Q1 d:Exit→Act→World→Prop}(b:∀e a w,e≠ .normal→Q1 e a w→d e a w) {f:List Oper}:∀(l1:List Oper) (a:Act) (w:World),wpList P ops Q1 l1 a w→(∀a w,Q1 .normal a w→wpList P ops d f a w)→wpList P ops d (l1++f) a w
 | [],a,w,h,hn=>hn _ _ h
 |o::l1,a,w,h,hn=>by
  rw[Yd];unfold wpList at h⊢
  split at h
  ·rename_i c;rw[if_pos c];rcases h with h|⟨h1,i,g,h2⟩
   ·exact .inl (BW (λa w hk=>oA b l1 a w hk hn) b h)
   ·exact .inr ⟨h1,i,g,b _ _ _ ak h2⟩
  ·rename_i c;rw[if_neg c];exact oA b l1 _ _ h hn
def Aw (t':Tm) (H:cG):Post:=λe t1 H1=>e=.normal∧H1=H∧Sub t' t1
theorem K0 (n:Nat) (b:Tm) {l:List Oper}(h:O G P N ops (l.take n) (Aw b H) t H) (k:O G P N ops (l.drop n) Q b H):O G P N ops l Q t H:=by
 refine⟨λa w ha f=>?_⟩;rw[←Xv n l];refine oA (Q1:=up G N (Aw b H)) ?_ _ _ _ (h.go a w ha f) ?_
 ·rintro e a w c ⟨d,g,_,_,he,_⟩;exact absurd he c
 ·rintro a w ⟨d,g,h1,h2,_,rfl,h4⟩;exact k.go a w (h1.sub h4) h2
theorem Jt {t b:Tm}{d:Nat}{v:Value}(h:look t d=none) (hs:Sub t b):Sub t ((d,v)::b):=by
 intro n u a;simp only[look];cases hb:Nat.beq d n with
 |true=>
  obtain rfl:=X2 hb;rw[h]at a;cases a
 |false=>exact hs n u a
theorem edq {a b:Tm}{d:Tmp}{v u:Value}(h:look a d=some u:=by exact rfl) (hv:u=v:=by exact rfl) (hs:Sub b a:=by(repeat (first|exact Sub.refl|refine Jt (by exact rfl) ?_))):Aw ((d,v)::b) H .normal a H:=⟨rfl,rfl,.cons (hv ▸ h) hs⟩
theorem cQ {l:List Oper}(n:Nat) (d:Tmp) {a:Tmp}{b c:Bool}{p:Prop}(n1:b=true→p:=by intro h;first|(simp only[Xs,Xx,Vq,Uo,Xu,Ub,Ue,Vo,ne_eq,X5]at h;exact h)|exact h)
 (m:O G P N ops (l.take n) (Aw ((d,.bool false)::t) H) ((a,.bool false)::t) H:=by(repeat (first|exact Fg edq|refine Ff rfl rfl rfl ?_|refine w6 rfl rfl rfl ?_|refine Fh (qK rfl rfl) rfl ?_|refine rI rfl rfl rfl (qK rfl rfl) ?_)))
 (k:p→O G P N ops (l.take n) (Aw ((d,.bool c)::t) H) ((a,.bool true)::t) H)
 (q:O G P N ops (l.drop n) Q ((d,.bool (b&&c))::t) H):O G P N ops l Q ((a,.bool b)::t) H:=by
 refine K0 n _ ?_ q;cases hb:b with
 |true=>rw[Vt];exact k (n1 hb)
 |false=>rw[Bool.false_and];exact m
theorem dz {l:List Oper}(n:Nat) (d:Tmp) {a:Tmp}{b c:Bool}{p:Prop}(n1:b=false→p:=by intro h;first|(simp only[Xs,Xx,Vq,Uo,Xu,Ub,Ue,Vo,ne_eq,X5]at h;exact h)|exact h)
 (m:O G P N ops (l.take n) (Aw ((d,.bool true)::t) H) ((a,.bool true)::t) H:=by(repeat (first|exact Fg edq|refine Ff rfl rfl rfl ?_|refine w6 rfl rfl rfl ?_|refine Fh (qJ rfl rfl) rfl ?_|refine rI rfl rfl rfl (qJ rfl rfl) ?_)))
 (k:p→O G P N ops (l.take n) (Aw ((d,.bool c)::t) H) ((a,.bool false)::t) H)
 (q:O G P N ops (l.drop n) Q ((d,.bool (b ||c))::t) H):O G P N ops l Q ((a,.bool b)::t) H:=by
 refine K0 n _ ?_ q;cases hb:b with
 |true=>rw[Bool.true_or];exact m
 |false=>rw[Bool.false_or];exact k (n1 hb)
def wo (ks:List Nat):Tm→Tm
 | []=>[]
 |(n,v)::t=>bif ks.elem n then wo ks t else(n,v)::wo ks t
theorem AB {ks:List Nat}{t:Tm}{n:Nat}{v:Value}(h:look (wo ks t) n=some v):ks.elem n=false∧look t n=some v:=by
 induction t with
 |nil=>cases h
 |cons p t ih=>
  obtain⟨m,u⟩:=p;simp only[wo]at h;cases hm:ks.elem m with
  |true=>
   rw[hm]at h;obtain⟨h1,h2⟩:=ih h;refine⟨h1,?_⟩;simp only[look];cases hb:Nat.beq m n with
   |true=>obtain rfl:=X2 hb;rw[hm]at h1;cases h1
   |false=>exact h2
  |false=>
   rw[hm]at h;simp only[cond_false,look]at h⊢;cases hb:Nat.beq m n with
   |true=>obtain rfl:=X2 hb;rw[hb]at h;exact⟨hm,h⟩
   |false=>rw[hb]at h;exact ih h
theorem AD {ks:List Nat}{t:Tm}:Sub (wo ks t) t:=λ_ _ h=>(AB h).2
theorem AA {ks:List Nat}{t a:Tm}{d:Nat}{v:Value}(h:ks.elem d=true) (hs:Sub (wo ks t) a):Sub (wo ks t) ((d,v)::a):=by
 intro n u b;simp only[look];cases hb:Nat.beq d n with
 |true=>
  obtain rfl:=X2 hb;rw[(AB b).1]at h;cases h
 |false=>exact hs n u b
theorem Fv (g r:Tm) (n:Nat):look (g++r) n=match look g n with|some v=>some v|none=>look r n:=by
 induction g with
 |nil=>rfl
 |cons p g ih=>
  obtain⟨m,u⟩:=p;simp only[Yd,look];cases Nat.beq m n with
  |true=>rfl
  |false=>simp only[cond_false];exact ih
theorem Sub.app {g r b:Tm}(c:Sub g b) (hr:Sub r b):Sub (g++r) b:=by
 intro n v a;rw[Fv]at a;cases hk:look g n with
 |some w=>rw[hk]at a;exact c n v (by rw[hk];exact a)
 |none=>rw[hk]at a;exact hr n v a
def H8 (F:Tm) (H2:cG) (Q:Post):Post:=λe t1 H1=>match e with
 | .normal=>Sub F t1∧cH H1 H2
 |e=>Q e t1 H1
theorem Kf {x y:Code}(b:Tm) (ks:List Nat) (c:cG) (h:W G P N x (H8 (b++wo ks t) c Q) t H) (k:W G P N y Q (b++wo ks t) c):W G P N (.seq x y) Q t H:=
 Dz (DB h λe t1 H1 a=>by
  cases e with
  |normal=>exact w_sub a.1 (w_hsub a.2 k)
  |_=>exact a)
theorem mf {x y:Code}(a:Tm) (ks:List Nat) (h:W G P N x (H8 (a++wo ks t) H Q) t H) (k:W G P N y Q (a++wo ks t) H):W G P N (.seq x y) Q t H:=Kf a ks H h k
def Ha {α:Type}(F:α→Tm) (hp:α→cG) (p:α→Prop) (Q:Post):Post:=λe t1 H1=>match e with
 | .normal=>∃a,Sub (F a) t1∧cH H1 (hp a)∧p a
 |e=>Q e t1 H1
theorem l4 {x y:Code}(α:Type) (p:α→Prop) (c:α→Tm) (ks:List Nat) (hp:α→cG) (hc:cG) (h:W G P N x (Ha (λa=>c a++wo ks t) (λa=>hp a++hc) p Q) t H) (k:∀a,p a→W G P N y Q (c a++wo ks t) (hp a++hc)):W G P N (.seq x y) Q t H:=
 Dz (DB h λe t1 H1 b=>by
  cases e with
  |normal=>obtain⟨a,h1,h2,h3⟩:=b;exact w_sub h1 (w_hsub h2 (k a h3))
  |_=>exact b)
theorem jS {x y:Code}(α:Type) (p:α→Prop) (b:α→Tm) (ks:List Nat) (h:W G P N x (Ha (λa=>b a++wo ks t) (λ_=>[]++H) p Q) t H) (k:∀a,p a→W G P N y Q (b a++wo ks t) H):W G P N (.seq x y) Q t H:=l4 α p b ks (λ_=>[]) H h k
theorem jnE {α:Type}{p:α→Prop}{d:α→Tm}{ks:List Nat}{hp:α→cG}{hc:cG}{c b:Tm}{e:cG}(a:α) (hs:Sub (d a) b:=by((try dsimp only);(repeat (first|exact Sub.nil|apply Sub.cons (by exact rfl))))) (hr:Sub (wo ks c) b:=by(repeat (first|exact AD|apply AA (by exact rfl)))) (hh:cH e (hp a++hc):=by(try dsimp only[Yd,Ye]);exact hsb) (q:p a):Ha (λa=>d a++wo ks c) (λa=>hp a++hc) p Q .normal b e:=⟨a,.app hs hr,hh,q⟩
theorem jb {a b:Bool}(h:a=b):some (Value.bool a)=some (Value.bool b):=h ▸ rfl
theorem jne {c:Tm}{ks:List Nat}{b a:Tm}{e d:cG}(hs:Sub c a:=by(repeat (first|exact Sub.nil|apply Sub.cons (by exact rfl)))) (hr:Sub (wo ks b) a:=by(repeat (first|exact AD|apply AA (by exact rfl)))) (hh:cH e d:=by exact hsb):H8 (c++wo ks b) d Q .normal a e:=⟨.app hs hr,hh⟩
theorem gA {dst:Option Tmp}{ty:TypeId}{pos:String}{after:Array Edge}{l:List Oper}{v:Value}{j d:Nat}{want:Bool}{f:FuncId}{xs:List Operand}{a:Array TypeId}{vs:List Value}{b:cG}(hx:oP t xs=some vs:=by exact rfl) (hc:SC G P f vs H (λu c=>u=v∧c=b)) (hj:(ops[j]?).bind (·.dst)=some d:=by exact rfl) (hv:look t d=some (.bool want):=by exact rfl) (hd:fC N dst=true:=by exact rfl) (k:O G P N ops l Q (put t dst v) b):
 O G P N ops (⟨dst,.call ⟨.value (.func f),xs.toArray,a⟩,ty,pos,after,some (j,want)⟩::l) Q t H:=LD hj hv hd (dy hx hc) (by rintro _ _ ⟨rfl,rfl⟩;exact k)
theorem vb {a b:Bool}(h:a=true↔b=true):Value.bool a=Value.bool b:=congrArg _ (U4.2 h)
theorem bq {a b:Bool}(h:a=true↔b=true):a=b:=U4.2 h
end
theorem e0_ {G:cJ}{P:Program}{N:Nat}{Q:Post}{t:Tm}{H:cG}{ops:Array Oper}{dst:Option Tmp}{ty:TypeId}{pos:String}{after:Array Edge}{l:List Oper}{op:Op}{v:Value}(h:Ev G P ⟨dst,op,ty,pos,after,none⟩ t H v:=by first|exact mv|exact asn|exact exr|exact fla|exact ldv|exact iad|exact lnn|exact ilt|exact pkt|exact pkf|exact ixa|exact lds|exact nck|exact ieq|exact ine|exact oe|exact od|exact isb|exact lel|exact ige|exact igt|exact jq|exact fle|exact ixs|exact ile|exact lfl|exact iml) (hd:fC N dst=true:=by exact rfl) (k:O G P N ops l Q (put t dst v) H):O G P N ops (⟨dst,op,ty,pos,after,none⟩::l) Q t H:=Fh h hd k
theorem e1_ {G:cJ}{P:Program}{N:Nat}{Q:Post}{t:Tm}{H:cG}{ops:Array Oper}{dst:Option Tmp}{ty:TypeId}{pos:String}{after:Array Edge}{l:List Oper}{op:Op}{v:Value}{j d:Nat}{want:Bool}(hj:(ops[j]?).bind (·.dst)=some d:=by exact rfl) (hv:look t d=some (.bool want):=by exact rfl) (h:Ev G P ⟨dst,op,ty,pos,after,some (j,want)⟩ t H v:=by first|exact mv|exact asn|exact exr|exact fla|exact ldv|exact iad|exact lnn|exact ilt|exact pkt|exact pkf|exact ixa|exact lds|exact nck|exact ieq|exact ine|exact oe|exact od|exact isb|exact lel|exact ige|exact igt|exact jq|exact fle|exact ixs|exact ile|exact lfl|exact iml) (hd:fC N dst=true:=by exact rfl) (k:O G P N ops l Q (put t dst v) H):O G P N ops (⟨dst,op,ty,pos,after,some (j,want)⟩::l) Q t H:=rI hj hv hd h k
theorem dE {G:cJ}{P:Program}{N:Nat}{Q:Post}{t:Tm}{H:cG}{ops:Array Oper}{dst:Option Tmp}{ty:TypeId}{pos:String}{after:Array Edge}{op:Op}{v:Value}{fuel:Nat}{listed:Array Bool}{H0:cG}(hi:ops[(ops.size-1-fuel)]? =some ⟨dst,op,ty,pos,after,none⟩:=by exact rfl) (hb:jF ops listed (ops.size-1-fuel)=true:=by kernel_rfl) (hd:fC N dst=true:=by exact rfl) (q:Ev G P ⟨dst,op,ty,pos,after,none⟩ t H0 v:=by first|exact mv|exact asn|exact exr|exact fla|exact ldv|exact iad|exact lnn|exact ilt|exact pkt|exact pkf|exact ixa|exact lds|exact nck|exact ieq|exact ine|exact oe|exact od|exact isb|exact lel|exact ige|exact igt|exact jq|exact fle|exact ixs|exact ile|exact lfl|exact iml) (k:An G P N ops ph (at_ H0) Q fuel (listed.setIfInBounds (ops.size-1-fuel) true) (put t dst v) H):An G P N ops ph (at_ H0) Q (fuel+1) listed t H:=as_ (ops.size-1-fuel) hi hb hd q k
theorem dG {G:cJ}{P:Program}{N:Nat}{Q:Post}{t:Tm}{H:cG}{ops:Array Oper}{dst:Option Tmp}{ty:TypeId}{pos:String}{after:Array Edge}{op:Op}{v:Value}{fuel:Nat}{listed:Array Bool}{H0:cG}{j d:Nat}{want:Bool}(hi:ops[(ops.size-1-fuel)]? =some ⟨dst,op,ty,pos,after,some (j,want)⟩:=by exact rfl) (hj:(ops[j]?).bind (·.dst)=some d:=by exact rfl) (hv:look t d=some (.bool want):=by exact rfl) (hb:jF ops listed (ops.size-1-fuel)=true:=by kernel_rfl) (hd:fC N dst=true:=by exact rfl) (q:Ev G P ⟨dst,op,ty,pos,after,some (j,want)⟩ t H0 v:=by first|exact mv|exact asn|exact exr|exact fla|exact ldv|exact iad|exact lnn|exact ilt|exact pkt|exact pkf|exact ixa|exact lds|exact nck|exact ieq|exact ine|exact oe|exact od|exact isb|exact lel|exact ige|exact igt|exact jq|exact fle|exact ixs|exact ile|exact lfl|exact iml) (k:An G P N ops ph (at_ H0) Q fuel (listed.setIfInBounds (ops.size-1-fuel) true) (put t dst v) H):An G P N ops ph (at_ H0) Q (fuel+1) listed t H:=at2 (ops.size-1-fuel) hi hj hv hb hd q k
theorem dO {G:cJ}{P:Program}{N:Nat}{Q:Post}{t:Tm}{H:cG}{ops:Array Oper}{dst:Option Tmp}{ty:TypeId}{pos:String}{after:Array Edge}{op:Op}{fuel:Nat}{listed:Array Bool}{H0:cG}{j d:Nat}{want:Bool}(hi:ops[(ops.size-1-fuel)]? =some ⟨dst,op,ty,pos,after,some (j,want)⟩:=by exact rfl) (hj:(ops[j]?).bind (·.dst)=some d:=by exact rfl) (hv:look t d=some (.bool !want):=by exact rfl) (hb:jF ops listed (ops.size-1-fuel)=true:=by kernel_rfl) (hd:fC N dst=true:=by exact rfl) (k:An G P N ops ph (at_ H0) Q fuel (listed.setIfInBounds (ops.size-1-fuel) true) (put t dst undef) H):An G P N ops ph (at_ H0) Q (fuel+1) listed t H:=ao_ (ops.size-1-fuel) hi hj hv rfl hb hd k
theorem dU {G:cJ}{P:Program}{N:Nat}{Q:Post}{t:Tm}{H:cG}{ops:Array Oper}{dst:Option Tmp}{ty:TypeId}{pos:String}{after:Array Edge}{op:Op}{fuel:Nat}{listed:Array Bool}{H0:cG}{j d:Nat}{want:Bool}(hi:ops[(ops.size-1-fuel)]? =some ⟨dst,op,ty,pos,after,some (j,want)⟩:=by exact rfl) (hj:(ops[j]?).bind (·.dst)=some d:=by exact rfl) (hv:look t d=some undef:=by exact rfl) (hb:jF ops listed (ops.size-1-fuel)=true:=by kernel_rfl) (hd:fC N dst=true:=by exact rfl) (k:An G P N ops ph (at_ H0) Q fuel (listed.setIfInBounds (ops.size-1-fuel) true) (put t dst undef) H):An G P N ops ph (at_ H0) Q (fuel+1) listed t H:=OJ (ops.size-1-fuel) hi hj hv rfl hb hd k
theorem dF {G:cJ}{P:Program}{N:Nat}{Q:Post}{t:Tm}{H:cG}{ops:Array Oper}{dst:Option Tmp}{ty:TypeId}{pos:String}{after:Array Edge}{op:Op}{v:Value}{loud:Nat→Bool}{F:Nat→cG→Prop}{fuel:Nat}{listed:Array Bool}(hi:ops[(ops.size-1-fuel)]? =some ⟨dst,op,ty,pos,after,none⟩:=by exact rfl) (hl:loud (ops.size-1-fuel)=false:=by exact rfl) (hb:jF ops listed (ops.size-1-fuel)=true:=by kernel_rfl) (hd:fC N dst=true:=by exact rfl) (q:∀H,F (ops.size-1-fuel) H→Ev G P ⟨dst,op,ty,pos,after,none⟩ t H v:=by intro H hH;first|(first|exact mv|exact asn|exact exr|exact fla|exact ldv|exact iad|exact lnn|exact ilt|exact pkt|exact pkf|exact ixa|exact lds|exact nck|exact ieq|exact ine|exact oe|exact od|exact isb|exact lel|exact ige|exact igt|exact jq|exact fle|exact ixs|exact ile|exact lfl|exact iml)|((try have f0:=hH rfl);(try have f1:=hH.1 rfl);(try have g1:=hH.2 rfl);(try have f2:=hH.2.1 rfl);(try have g2:=hH.2.2 rfl);(try have f3:=hH.2.2.1 rfl);(try have g3:=hH.2.2.2 rfl);(try have f4:=hH.2.2.2.1 rfl);(try have g4:=hH.2.2.2.2 rfl);(try have f5:=hH.2.2.2.2.1 rfl);(try have g5:=hH.2.2.2.2.2 rfl);(try have f6:=hH.2.2.2.2.2.1 rfl);(try have g6:=hH.2.2.2.2.2.2 rfl);(try have f7:=hH.2.2.2.2.2.2.1 rfl);(try have g7:=hH.2.2.2.2.2.2.2 rfl);(try have f8:=hH.2.2.2.2.2.2.2.1 rfl);(try have g8:=hH.2.2.2.2.2.2.2.2 rfl);(try have f9:=hH.2.2.2.2.2.2.2.2.1 rfl);(try have g9:=hH.2.2.2.2.2.2.2.2.2 rfl);first|exact mv|exact asn|exact exr|exact fla|exact ldv|exact iad|exact lnn|exact ilt|exact pkt|exact pkf|exact ixa|exact lds|exact nck|exact ieq|exact ine|exact oe|exact od|exact isb|exact lel|exact ige|exact igt|exact jq|exact fle|exact ixs|exact ile|exact lfl|exact iml)) (k:An G P N ops loud F Q fuel (listed.setIfInBounds (ops.size-1-fuel) true) (put t dst v) H):An G P N ops loud F Q (fuel+1) listed t H:=af_ (ops.size-1-fuel) hi hl hb hd (cU q) k
theorem aN {G:cJ}{P:Program}{N:Nat}{Q:Post}{t:Tm}{H:cG}{ops:Array Oper}{dst:Option Tmp}{ty:TypeId}{pos:String}{after:Array Edge}{op:Op}{v:Value}{loud:Nat→Bool}{F:Nat→cG→Prop}{fuel:Nat}{listed:Array Bool}(i:Nat) (hi:ops[i]? =some ⟨dst,op,ty,pos,after,none⟩) (q:∀H,F i H→Ev G P ⟨dst,op,ty,pos,after,none⟩ t H v) (k:An G P N ops loud F Q fuel (listed.setIfInBounds i true) (put t dst v) H) (hl:loud i=false:=by exact rfl) (hb:jF ops listed i=true:=by kernel_rfl) (hd:fC N dst=true:=by exact rfl):An G P N ops loud F Q (fuel+1) listed t H:=af_ i hi hl hb hd (cU q) k
theorem aS {G:cJ}{P:Program}{N:Nat}{Q:Post}{t:Tm}{H:cG}{ops:Array Oper}{dst:Option Tmp}{ty:TypeId}{pos:String}{after:Array Edge}{op:Op}{loud:Nat→Bool}{F:Nat→cG→Prop}{fuel:Nat}{listed:Array Bool}{R:Value→cG→Prop}(i:Nat) (hi:ops[i]? =some ⟨dst,op,ty,pos,after,none⟩) (hs:St G P ⟨dst,op,ty,pos,after,none⟩ t H R) (h:∀v a,R v a→An G P N ops loud F Q fuel (listed.setIfInBounds i true) (put t dst v) a) (hr:Region.ready .any ops listed= [i]:=by kernel_rfl) (hd:fC N dst=true:=by exact rfl) (hF:∀k,qg ops loud k listed→F k H:=by intro k hk;first|exact trivial|(try dsimp only);(repeat' (first|(intro hi;first|(subst hi;infer_instance)|exact absurd hk (by subst hi;exact iR aa))|apply And.intro))):An G P N ops loud F Q (fuel+1) listed t H:=jR i hi hr hd hF hs h
theorem aZ {G:cJ}{P:Program}{N:Nat}{Q:Post}{t:Tm}{H:cG}{ops:Array Oper}{loud:Nat→Bool}{F:Nat→cG→Prop}{listed:Array Bool}(h:Q .normal t H) (hr:(Region.ready .any ops listed).isEmpty=true:=by kernel_rfl) (hF:∀k,qg ops loud k listed→F k H:=by intro k hk;first|exact trivial|(try dsimp only);(repeat' (first|(intro hi;first|(subst hi;infer_instance)|exact absurd hk (by subst hi;exact iR aa))|apply And.intro))):An G P N ops loud F Q 0 listed t H:=GR hr hF h
structure Hdn (Q:Prop):Prop where
 go:Q
theorem gk {P Q:Prop}(h:Hdn Q→P:=by
 intro k
 repeat (first
  |(with_reducible change O _ _ _ _ _ _ _ _);(first|refine e0_ (k:=?_)|refine on_ ?_|refine of_ (k:=?_)|refine sto (k:=?_)|refine e1_ (k:=?_)|refine ou_ (k:=?_))
  |(with_reducible change W _ _ _ _ _ _ _);(with_reducible first|refine ws_ ?_|refine wr_ ?_|refine wk_ ?_|refine we_ ?_|refine wt_ ?_|refine wb_ ?_)
  |(with_reducible first|refine qn_ ?_|refine bn_ ?_|refine qe_ ?_|refine le_ ?_|refine bh_ ?_|refine qr_ ?_|refine br_ ?_|refine lr_ ?_)
  |(with_reducible change An _ _ _ _ _ _ _ _ _ _ _);(first|refine dE (k:=?_)|refine dG (k:=?_)|refine dO (k:=?_)|refine dU (k:=?_)|refine az_ (k:=?_)|refine dF (k:=?_)))
 exact k.go) (k:Q):P:=h ⟨k⟩
theorem go {P Q:Prop}(k:Q) (h:Hdn Q→P:=by refine λk=>gk (k:=k.go)):P:=h ⟨k⟩
theorem gW {R:Prop}{G:cJ}{P:Program}{N:Nat}{Q:Post}{t:Tm}{H:cG}{b:Bool}{c:Operand}{x y:Code}{p q:Prop}(k:p→W G P N x Q t H) (m:q→W G P N y Q t H) (h:Hdn (W G P N (.cond c x y) Q t H)→R:=by refine λk=>gk (k:=k.go)) (hc:evo t c=some (.bool b):=by exact rfl) (n1:b=true→p:=by intro h;first|(simp only[Xs,Xx,Vq,Uo,Xu,Ub,Ue,Vo,ne_eq,X5]at h;exact h)|exact h) (n2:b=false→q:=by intro h;first|(simp only[Xs,Xx,Vq,Uo,Xu,Ub,Ue,Vo,ne_eq,X5]at h;exact h)|exact h):R:=h ⟨wi_ (hc:=hc) (n1:=n1) (n2:=n2) (k:=k) (m:=m)⟩
theorem rT {P:Program}{t:Tm}{H:cG}{fn:Func}{K:Value→cG→Prop}{e:Exit}{rs:List ResultVar}{vs:List Value}(hfn:fn.results=rs.toArray:=by exact rfl) (he:e=.normal∨e=.ret:=by first|exact .inr rfl|exact .inl rfl) (hr:mZ P t H rs vs:=by(repeat (first|exact mZ.nil|apply mZ.cons (.tmp rfl)|apply PK (by exact rfl) (by infer_instance) (by infer_instance)|apply rvc (by exact rfl) (by infer_instance) (by infer_instance) (by exact rfl)))) (k:K (nq vs) H):As P fn K e t H:=rt_ hfn he hr k
theorem gR {R:Prop}{P:Program}{t:Tm}{H:cG}{fn:Func}{K:Value→cG→Prop}{e:Exit}{rs:List ResultVar}{vs:List Value}(k:K (nq vs) H) (h:Hdn (As P fn K e t H)→R:=by refine λk=>gk (k:=k.go)) (hfn:fn.results=rs.toArray:=by exact rfl) (he:e=.normal∨e=.ret:=by first|exact .inr rfl|exact .inl rfl) (hr:mZ P t H rs vs:=by(repeat (first|exact mZ.nil|apply mZ.cons (.tmp rfl)|apply PK (by exact rfl) (by infer_instance) (by infer_instance)|apply rvc (by exact rfl) (by infer_instance) (by infer_instance) (by exact rfl)))):R:=h ⟨rt_ hfn he hr k⟩
theorem gZ {R:Prop}{P:Program}{t:Tm}{H:cG}{fn:Func}{K:Value→cG→Prop}{e:Exit}{rs:List ResultVar}{vs:List Value}(h:Hdn (As P fn K e t H)→R:=by refine λk=>gk (k:=k.go)) (hfn:fn.results=rs.toArray:=by exact rfl) (he:e=.normal∨e=.ret:=by first|exact .inr rfl|exact .inl rfl) (hr:mZ P t H rs vs:=by(repeat (first|exact mZ.nil|apply mZ.cons (.tmp rfl)|apply PK (by exact rfl) (by infer_instance) (by infer_instance)|apply rvc (by exact rfl) (by infer_instance) (by infer_instance) (by exact rfl)))) (k:K (nq vs) H:=by exact⟨_,hsb,rfl,rfl⟩):R:=h ⟨rt_ hfn he hr k⟩
theorem gE {α:Type}(l:List α) (i:Nat) (h:i<l.length:=by omega):∃x,l[i]? =some x:=⟨_,Yi h⟩
theorem aF {G:cJ}{P:Program}{N:Nat}{Q:Post}{t:Tm}{H:cG}{ops:Array Oper}{dst:Option Tmp}{ty:TypeId}{pos:String}{after:Array Edge}{op:Op}{v:Value}{loud:Nat→Bool}{F:Nat→cG→Prop}{fuel:Nat}{listed:Array Bool}(i:Nat) (hi:ops[i]? =some ⟨dst,op,ty,pos,after,none⟩:=by exact rfl) (hl:loud i=false:=by exact rfl) (hb:jF ops listed i=true:=by kernel_rfl) (hd:fC N dst=true:=by exact rfl) (q:∀H,F i H→Ev G P ⟨dst,op,ty,pos,after,none⟩ t H v:=by intro H hH;first|exact mv|exact asn|exact exr|exact fla|exact ldv|exact iad|exact lnn|exact ilt|exact pkt|exact pkf|exact ixa|exact lds|exact nck|exact ieq|exact ine|exact oe|exact od|exact isb|exact lel|exact ige|exact igt|exact jq|exact fle|exact ixs|exact ile|exact lfl|exact iml) (k:An G P N ops loud F Q fuel (listed.setIfInBounds i true) (put t dst v) H):An G P N ops loud F Q (fuel+1) listed t H:=af_ i hi hl hb hd (cU q) k
theorem sWk {G:cJ}{P:Program}{H:cG}{f:FuncId}{fn:Func}{c:Code}{args:List Value}{K:Value→cG→Prop}{N:Nat}(hf:P.funcs[f]? =some fn) (h:W G P N c (As P fn (λv a=>∃n,cH a n∧K v n)) (nE 0 args) H) (hN:fn.ntmps=N:=by exact rfl) (hb:fn.body=some c:=by exact rfl) (hn:(fn.name== "runtime.NumGoroutine")=false:=by kernel_rfl) (hle:args.length≤N:=by exact Nat.le_of_ble_eq_true rfl):SC G P f args H K:=SC.out (OO hf hb hN hn hle h)
theorem c0_ {G:cJ}{P:Program}{N:Nat}{Q:Post}{t:Tm}{H:cG}{ops:Array Oper}{dst:Option Tmp}{ty:TypeId}{pos:String}{after:Array Edge}{l:List Oper}{f:FuncId}{xs:List Operand}{ats:Array TypeId}{K:Value→cG→Prop}(hx:oP t xs=some []) (hc:SC G P f [] H K) (k:∀v a,K v a→O G P N ops l Q (put t dst v) a) (hd:fC N dst=true:=by exact rfl):O G P N ops (⟨dst,.call ⟨.value (.func f),xs.toArray,ats⟩,ty,pos,after,none⟩::l) Q t H:=s_ (dy hx hc) k hd
theorem d0_ {G:cJ}{P:Program}{N:Nat}{Q:Post}{t:Tm}{H:cG}{ops:Array Oper}{dst:Option Tmp}{ty:TypeId}{pos:String}{after:Array Edge}{l:List Oper}{f:FuncId}{xs:List Operand}{ats:Array TypeId}{v:Value}{H2:cG}(hx:oP t xs=some []) (hc:SC G P f [] H (λu a=>u=v∧a=H2)) (k:O G P N ops l Q (put t dst v) H2) (hd:fC N dst=true:=by exact rfl):O G P N ops (⟨dst,.call ⟨.value (.func f),xs.toArray,ats⟩,ty,pos,after,none⟩::l) Q t H:=cp_ hx hc k hd
theorem c1_ {G:cJ}{P:Program}{N:Nat}{Q:Post}{t:Tm}{H:cG}{ops:Array Oper}{dst:Option Tmp}{ty:TypeId}{pos:String}{after:Array Edge}{l:List Oper}{f:FuncId}{xs:List Operand}{ats:Array TypeId}{K:Value→cG→Prop}{a0:Value}(hx:oP t xs=some [a0]) (hc:SC G P f [a0] H K) (k:∀v a,K v a→O G P N ops l Q (put t dst v) a) (hd:fC N dst=true:=by exact rfl):O G P N ops (⟨dst,.call ⟨.value (.func f),xs.toArray,ats⟩,ty,pos,after,none⟩::l) Q t H:=s_ (dy hx hc) k hd
theorem d1_ {G:cJ}{P:Program}{N:Nat}{Q:Post}{t:Tm}{H:cG}{ops:Array Oper}{dst:Option Tmp}{ty:TypeId}{pos:String}{after:Array Edge}{l:List Oper}{f:FuncId}{xs:List Operand}{ats:Array TypeId}{v:Value}{H2:cG}{a0:Value}(hx:oP t xs=some [a0]) (hc:SC G P f [a0] H (λu a=>u=v∧a=H2)) (k:O G P N ops l Q (put t dst v) H2) (hd:fC N dst=true:=by exact rfl):O G P N ops (⟨dst,.call ⟨.value (.func f),xs.toArray,ats⟩,ty,pos,after,none⟩::l) Q t H:=cp_ hx hc k hd
theorem c2_ {G:cJ}{P:Program}{N:Nat}{Q:Post}{t:Tm}{H:cG}{ops:Array Oper}{dst:Option Tmp}{ty:TypeId}{pos:String}{after:Array Edge}{l:List Oper}{f:FuncId}{xs:List Operand}{ats:Array TypeId}{K:Value→cG→Prop}{a0 a1:Value}(hx:oP t xs=some [a0,a1]) (hc:SC G P f [a0,a1] H K) (k:∀v a,K v a→O G P N ops l Q (put t dst v) a) (hd:fC N dst=true:=by exact rfl):O G P N ops (⟨dst,.call ⟨.value (.func f),xs.toArray,ats⟩,ty,pos,after,none⟩::l) Q t H:=s_ (dy hx hc) k hd
theorem d2_ {G:cJ}{P:Program}{N:Nat}{Q:Post}{t:Tm}{H:cG}{ops:Array Oper}{dst:Option Tmp}{ty:TypeId}{pos:String}{after:Array Edge}{l:List Oper}{f:FuncId}{xs:List Operand}{ats:Array TypeId}{v:Value}{H2:cG}{a0 a1:Value}(hx:oP t xs=some [a0,a1]) (hc:SC G P f [a0,a1] H (λu a=>u=v∧a=H2)) (k:O G P N ops l Q (put t dst v) H2) (hd:fC N dst=true:=by exact rfl):O G P N ops (⟨dst,.call ⟨.value (.func f),xs.toArray,ats⟩,ty,pos,after,none⟩::l) Q t H:=cp_ hx hc k hd
theorem c3_ {G:cJ}{P:Program}{N:Nat}{Q:Post}{t:Tm}{H:cG}{ops:Array Oper}{dst:Option Tmp}{ty:TypeId}{pos:String}{after:Array Edge}{l:List Oper}{f:FuncId}{xs:List Operand}{ats:Array TypeId}{K:Value→cG→Prop}{a0 a1 a2:Value}(hx:oP t xs=some [a0,a1,a2]) (hc:SC G P f [a0,a1,a2] H K) (k:∀v a,K v a→O G P N ops l Q (put t dst v) a) (hd:fC N dst=true:=by exact rfl):O G P N ops (⟨dst,.call ⟨.value (.func f),xs.toArray,ats⟩,ty,pos,after,none⟩::l) Q t H:=s_ (dy hx hc) k hd
theorem d3_ {G:cJ}{P:Program}{N:Nat}{Q:Post}{t:Tm}{H:cG}{ops:Array Oper}{dst:Option Tmp}{ty:TypeId}{pos:String}{after:Array Edge}{l:List Oper}{f:FuncId}{xs:List Operand}{ats:Array TypeId}{v:Value}{H2:cG}{a0 a1 a2:Value}(hx:oP t xs=some [a0,a1,a2]) (hc:SC G P f [a0,a1,a2] H (λu a=>u=v∧a=H2)) (k:O G P N ops l Q (put t dst v) H2) (hd:fC N dst=true:=by exact rfl):O G P N ops (⟨dst,.call ⟨.value (.func f),xs.toArray,ats⟩,ty,pos,after,none⟩::l) Q t H:=cp_ hx hc k hd
theorem v0_ {G:cJ}{P:Program}{t:Tm}{H:cG}{f:FuncId}{xs:List Operand}{ats:Array TypeId}{dst:Option Tmp}{ty:TypeId}{pos:String}{after:Array Edge}{g:Option (Nat×Bool)}{K:Value→cG→Prop}(hc:SC G P f [] H K) (hx:oP t xs=some []:=by exact rfl):St G P ⟨dst,.call ⟨.value (.func f),xs.toArray,ats⟩,ty,pos,after,g⟩ t H K:=dy hx hc
theorem v1_ {G:cJ}{P:Program}{t:Tm}{H:cG}{f:FuncId}{xs:List Operand}{ats:Array TypeId}{dst:Option Tmp}{ty:TypeId}{pos:String}{after:Array Edge}{g:Option (Nat×Bool)}{K:Value→cG→Prop}{a0:Value}(hc:SC G P f [a0] H K) (hx:oP t xs=some [a0]:=by exact rfl):St G P ⟨dst,.call ⟨.value (.func f),xs.toArray,ats⟩,ty,pos,after,g⟩ t H K:=dy hx hc
theorem v2_ {G:cJ}{P:Program}{t:Tm}{H:cG}{f:FuncId}{xs:List Operand}{ats:Array TypeId}{dst:Option Tmp}{ty:TypeId}{pos:String}{after:Array Edge}{g:Option (Nat×Bool)}{K:Value→cG→Prop}{a0 a1:Value}(hc:SC G P f [a0,a1] H K) (hx:oP t xs=some [a0,a1]:=by exact rfl):St G P ⟨dst,.call ⟨.value (.func f),xs.toArray,ats⟩,ty,pos,after,g⟩ t H K:=dy hx hc
theorem v3_ {G:cJ}{P:Program}{t:Tm}{H:cG}{f:FuncId}{xs:List Operand}{ats:Array TypeId}{dst:Option Tmp}{ty:TypeId}{pos:String}{after:Array Edge}{g:Option (Nat×Bool)}{K:Value→cG→Prop}{a0 a1 a2:Value}(hc:SC G P f [a0,a1,a2] H K) (hx:oP t xs=some [a0,a1,a2]:=by exact rfl):St G P ⟨dst,.call ⟨.value (.func f),xs.toArray,ats⟩,ty,pos,after,g⟩ t H K:=dy hx hc
theorem wD {G:cJ}{P:Program}{N:Nat}{l:List Oper}{Q:Post}{t:Tm}{H:cG}{id:Nat}(L:List Nat) (F:Nat→cG→Prop) (h:An G P N l.toArray (λi=>L.contains i) F Q l.length (Array.replicate l.length false) t H) (hm:P.follows .mixedOrders=true:=by exact cN):W G P N (.region id l.toArray true) Q t H:=Kh hm _ F h
end Go.Sx
