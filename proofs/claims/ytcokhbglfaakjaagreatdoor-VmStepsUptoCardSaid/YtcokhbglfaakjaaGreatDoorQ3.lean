import Derived.Test.YtcokhbglfaakjaaGreatDoorQ2
import Derived.KernelRfl
import Derived.Laws.IdiomStrings
set_option linter.all false
set_option maxHeartbeats 0
namespace Go.Sx
open Go
section
variable {G:dJ}{P:Program}{N:Nat}{Q:Post}{t:Tm}{H:dD}{ops:Array Oper}{dst:Option Tmp}{ty:TypeId}{pos:String}{after:Array Edge}{g:Option (Nat×Bool)}{l:List Oper}{op:Op}{v:Value}{j d:Nat}{want b:Bool}
theorem nrm {p q:Prop}(h:p) (k:p→q:=by intro h;first|(simp only[Xq,Xy,Uf,X2,Xu,Uh,Ut,Ua,ne_eq,V8]at h;exact h)|exact h):q:=k h
theorem hsb {H H':dD}(h:dH H H':=by(repeat (first|exact dH.refl|apply Qt|apply dH.row|apply Qs|apply Ng|apply Nf|apply dH.rd|apply dH.rd' rfl|apply dH.nilRow|apply dH.mp|apply qm|apply BB|apply yT|apply js|apply dH.drop))):dH H H':=h
theorem sbt {a t:Tm}(h:Sub a t:=by(repeat (first|exact Sub.nil|apply Sub.cons (by exact rfl)))):Sub a t:=h
theorem ctt {F a:Tm}{H':dD}(h:Sub F a:=by(repeat (first|exact Sub.nil|apply Sub.cons (by exact rfl)|refine Sub.cons (congrArg (λb=>some (Value.bool b)) (YI a8)) ?_|refine Sub.cons (congrArg (λb=>some (Value.bool b)) (YH a8)) ?_|refine Sub.cons (congrArg (λb=>some (Value.bool b)) (YJ a8)) ?_))):Exit.normal=Exit.normal∧Sub F a∧H'=H':=⟨rfl,h,rfl⟩
theorem e_ (h:Ev G P ⟨dst,op,ty,pos,after,none⟩ t H v) (k:O G P N ops l Q (put t dst v) H) (hd:iJ N dst=true:=by exact rfl):O G P N ops (⟨dst,op,ty,pos,after,none⟩::l) Q t H:=L7 h hd k
theorem eg_ (h:Ev G P ⟨dst,op,ty,pos,after,some (j,want)⟩ t H v) (k:O G P N ops l Q (put t dst v) H) (hj:(ops[j]?).bind (·.dst)=some d:=by exact rfl) (hv:look t d=some (.bool want):=by exact rfl) (hd:iJ N dst=true:=by exact rfl):
 O G P N ops (⟨dst,op,ty,pos,after,some (j,want)⟩::l) Q t H:=wq hj hv hd h k
theorem of_ (k:O G P N ops l Q (put t dst undef) H) (hj:(ops[j]?).bind (·.dst)=some d:=by exact rfl) (hv:look t d=some (.bool !want):=by exact rfl) (hd:iJ N dst=true:=by exact rfl):
 O G P N ops (⟨dst,op,ty,pos,after,some (j,want)⟩::l) Q t H:=KZ hj hv hd k
theorem ou_ (k:O G P N ops l Q (put t dst undef) H) (hj:(ops[j]?).bind (·.dst)=some d:=by exact rfl) (hv:look t d=some undef:=by exact rfl) (hd:iJ N dst=true:=by exact rfl):
 O G P N ops (⟨dst,op,ty,pos,after,some (j,want)⟩::l) Q t H:=AP hj hv hd k
theorem s_ {R:Value→dD→Prop}(h:St G P ⟨dst,op,ty,pos,after,none⟩ t H R) (k:∀v H',R v H'→O G P N ops l Q (put t dst v) H') (hd:iJ N dst=true:=by exact rfl):O G P N ops (⟨dst,op,ty,pos,after,none⟩::l) Q t H:=CJ h hd k
theorem sg_ {R:Value→dD→Prop}(h:St G P ⟨dst,op,ty,pos,after,some (j,want)⟩ t H R) (hj:(ops[j]?).bind (·.dst)=some d:=by exact rfl) (hv:look t d=some (.bool want):=by exact rfl) (hd:iJ N dst=true:=by exact rfl) (k:∀v H',R v H'→O G P N ops l Q (put t dst v) H'):
 O G P N ops (⟨dst,op,ty,pos,after,some (j,want)⟩::l) Q t H:=Td hj hv hd h k
theorem cp_ {f:FuncId}{xs:List Operand}{a:Array TypeId}{vs:List Value}{b:dD}(hx:ui t xs=some vs) (hc:SC G P f vs H (λu c=>u=v∧c=b)) (k:O G P N ops l Q (put t dst v) b) (hd:iJ N dst=true:=by exact rfl):
 O G P N ops (⟨dst,.call ⟨.value (.func f),xs.toArray,a⟩,ty,pos,after,none⟩::l) Q t H:=CJ (lU hx hc) hd (by rintro _ _ ⟨rfl,rfl⟩;exact k)
theorem sp_ {p q:Prop}(h:Ev G P ⟨dst,op,ty,pos,after,none⟩ t H (.bool b)) (hd:iJ N dst=true:=by exact rfl) (n1:b=true→p:=by intro h;first|(simp only[Xq,Xy,Uf,X2,Xu,Uh,Ut,Ua,ne_eq,V8]at h;exact h)|exact h) (n2:b=false→q:=by intro h;first|(simp only[Xq,Xy,Uf,X2,Xu,Uh,Ut,Ua,ne_eq,V8]at h;exact h)|exact h)
 (k:p→O G P N ops l Q (put t dst (.bool true)) H) (m:q→O G P N ops l Q (put t dst (.bool false)) H):O G P N ops (⟨dst,op,ty,pos,after,none⟩::l) Q t H:=P5 h hd (λh=>k (n1 h)) (λh=>m (n2 h))
theorem tB {p q:Prop}(h:Ev G P ⟨dst,op,ty,pos,after,some (j,want)⟩ t H (.bool b)) (hj:(ops[j]?).bind (·.dst)=some d:=by exact rfl) (hv:look t d=some (.bool want):=by exact rfl) (hd:iJ N dst=true:=by exact rfl) (n1:b=true→p:=by intro h;first|(simp only[Xq,Xy,Uf,X2,Xu,Uh,Ut,Ua,ne_eq,V8]at h;exact h)|exact h) (n2:b=false→q:=by intro h;first|(simp only[Xq,Xy,Uf,X2,Xu,Uh,Ut,Ua,ne_eq,V8]at h;exact h)|exact h)
 (k:p→O G P N ops l Q (put t dst (.bool true)) H) (m:q→O G P N ops l Q (put t dst (.bool false)) H):O G P N ops (⟨dst,op,ty,pos,after,some (j,want)⟩::l) Q t H:=EJ hj hv h hd (λh=>k (n1 h)) (λh=>m (n2 h))
theorem wi_ {c:Operand}{x y:Code}{p q:Prop}(hc:evo t c=some (.bool b):=by exact rfl) (n1:b=true→p:=by intro h;first|(simp only[Xq,Xy,Uf,X2,Xu,Uh,Ut,Ua,ne_eq,V8]at h;exact h)|exact h) (n2:b=false→q:=by intro h;first|(simp only[Xq,Xy,Uf,X2,Xu,Uh,Ut,Ua,ne_eq,V8]at h;exact h)|exact h)
 (k:p→W G P N x Q t H) (m:q→W G P N y Q t H):W G P N (.cond c x y) Q t H:=No hc (λh=>k (n1 h)) (λh=>m (n2 h))
theorem ir_ {c:Operand}{x y:Code}(hc:evo t c=some (.bool b):=by exact rfl) (k:b=true→W G P N x Q t H) (m:b=false→W G P N y Q t H):W G P N (.cond c x y) Q t H:=No hc k m
theorem ift {c:Operand}{x y:Code}(hc:evo t c=some (.bool true):=by exact rfl) (k:W G P N x Q t H):W G P N (.cond c x y) Q t H:=HA hc k
theorem fM {c:Operand}{x y:Code}(hc:evo t c=some (.bool false):=by exact rfl) (k:W G P N y Q t H):W G P N (.cond c x y) Q t H:=Ea hc k
theorem ws_ {x y:Code}(h:W G P N x (J7 G P N y Q) t H):W G P N (.seq x y) Q t H:=yV h
theorem wb_ {a:Nat}{c:Code}(h:W G P N c (BC a Q) t H):W G P N (.block a c) Q t H:=Np h
theorem wr_ {a:Nat}{l:List Oper}(h:O G P N l.toArray l Q t H):W G P N (.region a l.toArray false) Q t H:=Jg h
theorem wt_ (h:Q .ret t H):W G P N .ret Q t H:=UT h
theorem we_ {a:Nat}(h:Q (.exit a) t H):W G P N (.exit a) Q t H:=Rr h
theorem wk_ (h:Q .normal t H):W G P N .skip Q t H:=Jf h
theorem on_ {ops:Array Oper}(h:Q .normal t H):O G P N ops [] Q t H:=L0 h
theorem qn_ {y:Code}(h:W G P N y Q t H):J7 G P N y Q .normal t H:=h
theorem qe_ {y:Code}{a:Nat}(h:Q (.exit a) t H):J7 G P N y Q (.exit a) t H:=h
theorem qr_ {y:Code}(h:Q .ret t H):J7 G P N y Q .ret t H:=h
theorem bn_ {a:Nat}(h:Q .normal t H):BC a Q .normal t H:=h
theorem br_ {a:Nat}(h:Q .ret t H):BC a Q .ret t H:=h
theorem bh_ {a:Nat}(h:Q .normal t H):BC a Q (.exit a) t H:=a0g h
theorem bm_ {c a:Nat}(b:Nat.beq a c=false:=by exact rfl) (k:Q (.exit a) t H):BC c Q (.exit a) t H:=a0f b k
section
variable {α:Type}{I:α→Prop}{fr:α→Tm}{hp:α→dD}{μ:α→Nat}{x:α}
theorem ln_ (y:α) (h2:μ y<μ x:=by(try dsimp only);omega) (h3:Sub (fr y) t:=by(try dsimp only[Yd,Ye]);exact sbt) (h4:dH H (hp y):=by(try dsimp only[Yd,Ye]);exact hsb) (k:I y):yE I fr hp μ x Q .normal t H:=⟨y,k,h2,h3,h4⟩
theorem lN (y:α) (k:I y) (h2:μ y<μ x:=by(try dsimp only);omega) (h3:Sub (fr y) t:=by(try dsimp only[Yd,Ye]);exact sbt) (h4:dH H (hp y):=by(try dsimp only[Yd,Ye]);exact hsb):yE I fr hp μ x Q .normal t H:=ln_ y h2 h3 h4 k
theorem le_ {a:Nat}(h:Q (.exit a) t H):yE I fr hp μ x Q (.exit a) t H:=h
theorem lr_ (h:Q .ret t H):yE I fr hp μ x Q .ret t H:=h
end
theorem wl_ {c:Code}(α:Type) (I:α→Prop) (fr:α→Tm) (hp:α→dD) (μ:α→Nat) (a:α) (hs:Sub (fr a) t:=by exact sbt) (hh:dH H (hp a):=by(try dsimp only);exact hsb) (h0:I a)
 (k:∀x,I x→W G P N c (yE I fr hp μ x Q) (fr x) (hp x)):W G P N (.loop c) Q t H:=Jh α I fr hp μ a h0 hs hh k
theorem e8 {c:Code}(α:Type) (I:α→Prop) (fr:α→Tm) (b:Tm) (hp:α→dD) (hc:dD) (μ:α→Nat) (a:α) (hs:Sub (fr a++b) t:=by(try dsimp only[Yd,Ye]);exact sbt) (hh:dH H (hp a++hc):=by(try dsimp only[Yd,Ye]);exact hsb) (h0:I a)
 (k:∀x,I x→W G P N c (yE I (λx=>fr x++b) (λx=>hp x++hc) μ x Q) (fr x++b) (hp x++hc)):W G P N (.loop c) Q t H:=Jh α I (λx=>fr x++b) (λx=>hp x++hc) μ a h0 hs hh k
theorem Zw {r:Tmp}{T:TypeId}{b:Nat}{v:Value}{rs:List ResultVar}{vs:List Value}(h:look t r=some (.pointer (some ⟨b,0,none⟩))) (hT:One P T) (hH:dQ H b [v]) (k:qu P t H rs vs):qu P t H (.cell r T::rs) (v::vs):=.cons (.cell1 h) k
theorem rvc {r:Tmp}{T:TypeId}{b n:Nat}{cs:List Value}{rs:List ResultVar}{vs:List Value}(h:look t r=some (.pointer (some ⟨b,0,none⟩))) (hT:Agg P T n) (hH:dQ H b cs) (hn:cs.length=n) (k:qu P t H rs vs):qu P t H (.cell r T::rs) (.agg cs.toArray::vs):=.cons (.cell h hn) k
theorem rt_ {b:Func}{K:Value→dD→Prop}{e:Exit}{rs:List ResultVar}{vs:List Value}(a:b.results=rs.toArray) (he:e=.normal∨e=.ret:=by first|exact .inr rfl|exact .inl rfl) (hr:qu P t H rs vs:=by(repeat (first|exact qu.nil|apply qu.cons (.tmp rfl)|apply Zw (by exact rfl) (by infer_instance) (by infer_instance)|apply rvc (by exact rfl) (by infer_instance) (by infer_instance) (by exact rfl)))) (k:K (jt vs) H):N9 P b K e t H:=I7 a he hr k
section
variable {loud:Nat→Bool}{F:Nat→dD→Prop}{fuel:Nat}{listed:Array Bool}
theorem af_ (i:Nat) (hi:ops[i]? =some ⟨dst,op,ty,pos,after,none⟩:=by exact rfl) (hl:loud i=false:=by exact rfl) (a:lP ops listed i=true:=by kernel_rfl) (hd:iJ N dst=true:=by exact rfl) (q:Qv G P (F i) ⟨dst,op,ty,pos,after,none⟩ t v) (k:An G P N ops loud F Q fuel (listed.setIfInBounds i true) (put t dst v) H):An G P N ops loud F Q (fuel+1) listed t H:=dS i hi hl a hd q k
theorem ag_ (i:Nat) (hi:ops[i]? =some ⟨dst,op,ty,pos,after,some (j,want)⟩:=by exact rfl) (hj:(ops[j]?).bind (·.dst)=some d:=by exact rfl) (hv:look t d=some (.bool want):=by exact rfl) (hl:loud i=false:=by exact rfl) (a:lP ops listed i=true:=by kernel_rfl) (hd:iJ N dst=true:=by exact rfl)
 (q:Qv G P (F i) ⟨dst,op,ty,pos,after,some (j,want)⟩ t v) (k:An G P N ops loud F Q fuel (listed.setIfInBounds i true) (put t dst v) H):An G P N ops loud F Q (fuel+1) listed t H:=lH i hi hj hv hl a hd q k
theorem ao_ (i:Nat) (hi:ops[i]? =some ⟨dst,op,ty,pos,after,some (j,want)⟩:=by exact rfl) (hj:(ops[j]?).bind (·.dst)=some d:=by exact rfl) (hv:look t d=some (.bool !want):=by exact rfl) (hl:loud i=false:=by exact rfl) (a:lP ops listed i=true:=by kernel_rfl) (hd:iJ N dst=true:=by exact rfl)
 (k:An G P N ops loud F Q fuel (listed.setIfInBounds i true) (put t dst undef) H):An G P N ops loud F Q (fuel+1) listed t H:=UM i hi hj hv hl a hd k
end
section
variable {fuel:Nat}{listed:Array Bool}{H0:dD}
theorem as_ (i:Nat) (hi:ops[i]? =some ⟨dst,op,ty,pos,after,none⟩:=by exact rfl) (a:lP ops listed i=true:=by kernel_rfl) (hd:iJ N dst=true:=by exact rfl) (q:Ev G P ⟨dst,op,ty,pos,after,none⟩ t H0 v) (k:An G P N ops tz (at_ H0) Q fuel (listed.setIfInBounds i true) (put t dst v) H):An G P N ops tz (at_ H0) Q (fuel+1) listed t H:=dS i hi rfl a hd (ey q) k
theorem at2 (i:Nat) (hi:ops[i]? =some ⟨dst,op,ty,pos,after,some (j,want)⟩:=by exact rfl) (hj:(ops[j]?).bind (·.dst)=some d:=by exact rfl) (hv:look t d=some (.bool want):=by exact rfl) (a:lP ops listed i=true:=by kernel_rfl) (hd:iJ N dst=true:=by exact rfl)
 (q:Ev G P ⟨dst,op,ty,pos,after,some (j,want)⟩ t H0 v) (k:An G P N ops tz (at_ H0) Q fuel (listed.setIfInBounds i true) (put t dst v) H):An G P N ops tz (at_ H0) Q (fuel+1) listed t H:=lH i hi hj hv rfl a hd (ey q) k
theorem az_ (hr:(Region.ready .any ops listed).isEmpty=true:=by kernel_rfl) (k:Q .normal t H0):An G P N ops tz (at_ H0) Q 0 listed t H0:=FF hr (λ_ _=>rfl) k
end
end
section
variable {G:dJ}{P:Program}{t:Tm}{H:dD}{dst:Option Tmp}{ty:TypeId}{pos:String}{after:Array Edge}{g:Option (Nat×Bool)}
theorem mv {x:Operand}{v:Value}(hx:evo t x=some v:=by exact rfl):Ev G P ⟨dst,.move x,ty,pos,after,g⟩ t H v:=PL hx
theorem asn {x:Operand}{v:Value}(hx:evo t x=some v:=by exact rfl):Ev G P ⟨dst,.assign x,ty,pos,after,g⟩ t H v:=zN hx
theorem asv {x:Operand}{u v:Value}(hx:evo t x=some u) (h:u=v):Ev G P ⟨dst,.assign x,ty,pos,after,g⟩ t H v:=h ▸ zN hx
theorem exr {x:Operand}{i:Nat}{vs:Array Value}{v:Value}(hx:evo t x=some (.tuple vs):=by exact rfl) (hv:vs.toList[i]? =some v:=by exact rfl):Ev G P ⟨dst,.extract x i,ty,pos,after,g⟩ t H v:=Dc hx hv
theorem nck {x:Operand}{a:Addr}(hx:evo t x=some (.pointer (some a)):=by exact rfl):Ev G P ⟨dst,.nilCheck x,ty,pos,after,g⟩ t H (.pointer (some a)):=D8 hx
theorem pkt {a b c:Operand}{d:Value}(hc:evo t c=some (.bool true):=by exact rfl) (ha:evo t a=some d:=by exact rfl):Ev G P ⟨dst,.pick c a b,ty,pos,after,g⟩ t H d:=vq hc ha
theorem pkf {a b c:Operand}{vb:Value}(hc:evo t c=some (.bool false):=by exact rfl) (d:evo t b=some vb:=by exact rfl):Ev G P ⟨dst,.pick c a b,ty,pos,after,g⟩ t H vb:=vt hc d
section
variable {T U:TypeId}{x y:Operand}{k:IntKind}{a b:Int}
theorem ilt (hx:evo t x=some (.int k a):=by exact rfl) (hy:evo t y=some (.int k b):=by exact rfl):Ev G P ⟨dst,.binOp .lss T x y U,ty,pos,after,g⟩ t H (.bool (decide (a<b))):=UA hx hy
theorem ile (hx:evo t x=some (.int k a):=by exact rfl) (hy:evo t y=some (.int k b):=by exact rfl):Ev G P ⟨dst,.binOp .leq T x y U,ty,pos,after,g⟩ t H (.bool (decide (a≤b))):=UB hx hy
theorem igt (hx:evo t x=some (.int k a):=by exact rfl) (hy:evo t y=some (.int k b):=by exact rfl):Ev G P ⟨dst,.binOp .gtr T x y U,ty,pos,after,g⟩ t H (.bool (decide (b<a))):=UD hx hy
theorem ige (hx:evo t x=some (.int k a):=by exact rfl) (hy:evo t y=some (.int k b):=by exact rfl):Ev G P ⟨dst,.binOp .geq T x y U,ty,pos,after,g⟩ t H (.bool (decide (b≤a))):=UE hx hy
theorem ieq (hx:evo t x=some (.int k a):=by exact rfl) (hy:evo t y=some (.int k b):=by exact rfl):Ev G P ⟨dst,.binOp .eql T x y U,ty,pos,after,g⟩ t H (.bool (decide (a=b))):=UF hx hy
theorem ine (hx:evo t x=some (.int k a):=by exact rfl) (hy:evo t y=some (.int k b):=by exact rfl):Ev G P ⟨dst,.binOp .neq T x y U,ty,pos,after,g⟩ t H (.bool (decide (a≠b))):=TY hx hy
theorem iad (hx:evo t x=some (.int .i64 a):=by exact rfl) (hy:evo t y=some (.int .i64 b):=by exact rfl) (h: -9223372036854775808≤a+b∧a+b≤9223372036854775807:=by omega):Ev G P ⟨dst,.binOp .add T x y U,ty,pos,after,g⟩ t H (.int .i64 (a+b)):=Bg hx hy h
theorem isb (hx:evo t x=some (.int .i64 a):=by exact rfl) (hy:evo t y=some (.int .i64 b):=by exact rfl) (h: -9223372036854775808≤a-b∧a-b≤9223372036854775807:=by omega):Ev G P ⟨dst,.binOp .sub T x y U,ty,pos,after,g⟩ t H (.int .i64 (a-b)):=Mm hx hy h
theorem iml (hx:evo t x=some (.int .i64 a):=by exact rfl) (hy:evo t y=some (.int .i64 b):=by exact rfl) (h: -9223372036854775808≤a*b∧a*b≤9223372036854775807:=by omega):Ev G P ⟨dst,.binOp .mul T x y U,ty,pos,after,g⟩ t H (.int .i64 (a*b)):=TZ hx hy h
end
theorem mN {T:TypeId}{x:Operand}{b:Bool}(hx:evo t x=some (.bool b):=by exact rfl):Ev G P ⟨dst,.unOp .not T x,ty,pos,after,g⟩ t H (.bool !b):=TX hx
theorem ldv {T:TypeId}{x:Operand}{b off:Nat}{l:List Value}{v:Value}(hx:evo t x=some (.pointer (some ⟨b,off,none⟩)):=by exact rfl) (hT:One P T:=by infer_instance) (hH:dQ H b l:=by infer_instance) (hc:Cut l off 1 [v]:=by infer_instance):Ev G P ⟨dst,.load T x,ty,pos,after,g⟩ t H v:=PN hx
theorem lds {T:TypeId}{x:Operand}{b off n:Nat}{l cs:List Value}(hx:evo t x=some (.pointer (some ⟨b,off,none⟩)):=by exact rfl) (hT:Agg P T n:=by infer_instance) (hH:dQ H b l:=by infer_instance) (hc:Cut l off n cs:=by infer_instance):Ev G P ⟨dst,.load T x,ty,pos,after,g⟩ t H (.agg cs.toArray):=Mr hx
theorem fla {T:TypeId}{x:Operand}{k b o off o':Nat}(hx:evo t x=some (.pointer (some ⟨b,o,none⟩)):=by exact rfl) (hf:Fld P T k off:=by infer_instance) (ha:BE o off o':=by infer_instance):Ev G P ⟨dst,.fieldAddr T x k,ty,pos,after,g⟩ t H (.pointer (some ⟨b,o',none⟩)):=Bf hx
theorem fle {T:TypeId}{x:Operand}{s:SV}{k a i o off o':Nat}{α:Type}{e:Enc α}{xs:List α}(hx:evo t x=some (.pointer (s.elt a i o)):=by exact rfl) (hs:Sl H s e xs:=by infer_instance) (hf:Fld P T k off:=by infer_instance) (ha:BE o off o':=by infer_instance) (hlt:i<xs.length:=by omega):Ev G P ⟨dst,.fieldAddr T x k,ty,pos,after,g⟩ t H (.pointer (s.elt a i o')):=vu hx hlt
theorem ixa {x b:Operand}{T E:TypeId}{s:SV}{α:Type}{e:Enc α}{xs:List α}{a c:Nat}{z:Value}{k:IntKind}{j:Int}{i:Nat}(hx:evo t x=some s.val:=by exact rfl) (hi:evo t b=some (.int k j):=by exact rfl) (hT:Und P T (.slice E):=by infer_instance) (hE:Inf P E a c z:=by infer_instance) (hs:Sl H s e xs:=by infer_instance) (hj:j=i:=by first|exact rfl|exact Ic a8|exact OQ a8|exact OP a8|exact OO a8|exact(Int.toNat_of_nonneg a8).symm) (hlt:i<xs.length:=by omega):Ev G P ⟨dst,.indexAddr T x b,ty,pos,after,g⟩ t H (.pointer (s.elt a i 0)):=er hx hi i hj hlt
def at0 (s:List Nat) (i:Nat):Nat:=s.getD i 0
theorem Ic {i:Nat}(h:1≤i):(i:Int)-1=((i-1:Nat):Int):=a8
theorem OQ {i:Nat}(h:2≤i):(i:Int)-2=((i-2:Nat):Int):=a8
theorem OP {i:Nat}(h:3≤i):(i:Int)-3=((i-3:Nat):Int):=a8
theorem OO {i k:Nat}(h:k≤i):(i:Int)-(k:Int)=((i-k:Nat):Int):=a8
theorem ixs {T:TypeId}{x a:Operand}{s:ByteArray}{k:IntKind}{j:Int}{i:Nat}(hx:evo t x=some (.string s):=by exact rfl) (hi:evo t a=some (.int k j):=by exact rfl) (hT:Und P T .string:=by infer_instance) (hj:j=((i:Nat):Int):=by first|exact rfl|exact Ic a8|exact OQ a8|exact OP a8|exact OO a8|exact(Int.toNat_of_nonneg a8).symm) (hlt:i<(dC s).length:=by first|omega|(simp only[dI];omega)):
 Ev G P ⟨dst,.index T x a,ty,pos,after,g⟩ t H (.int .u8 ((at0 (dC s) i:Nat):Int)):=qb hx hi i hj _ (by rw[at0,Xj,Yi hlt];rfl)
theorem I0 {T:TypeId}{x o:Operand}{s:ByteArray}{k:IntKind}{j:Int}{a:Nat}(hx:evo t x=some (.string s):=by exact rfl) (b:evo t o=some (.int k j):=by exact rfl) (hT:Und P T .string:=by infer_instance) (hj:j=((a:Nat):Int):=by first|exact rfl|exact Ic a8|exact OQ a8|exact OP a8|exact OO a8|exact(Int.toNat_of_nonneg a8).symm) (h1:a≤s.size:=by omega):
 Ev G P ⟨dst,.slice T x (some o) none none,ty,pos,after,g⟩ t H (.string (s.extract a s.size)):=mK hx a s.size ⟨k,j,b,hj⟩ rfl h1 (Xl _)
theorem tE {T:TypeId}{x o:Operand}{s:ByteArray}{k:IntKind}{j:Int}{b:Nat}(hx:evo t x=some (.string s):=by exact rfl) (a:evo t o=some (.int k j):=by exact rfl) (hT:Und P T .string:=by infer_instance) (hj:j=((b:Nat):Int):=by first|exact rfl|exact Ic a8|exact OQ a8|exact OP a8|exact OO a8|exact(Int.toNat_of_nonneg a8).symm) (h1:b≤s.size:=by omega):
 Ev G P ⟨dst,.slice T x none (some o) none,ty,pos,after,g⟩ t H (.string (s.extract 0 b)):=mK hx 0 b rfl ⟨k,j,a,hj⟩ (Yl _) h1
theorem tH {T U:TypeId}{x y:Operand}{a b:ByteArray}(hx:evo t x=some (.string a):=by exact rfl) (hy:evo t y=some (.string b):=by exact rfl):Ev G P ⟨dst,.binOp .eql T x y U,ty,pos,after,g⟩ t H (.bool (decide (dC a=dC b))):=qc hx hy
theorem Ka {T U:TypeId}{x y:Operand}{a b:ByteArray}(hx:evo t x=some (.string a):=by exact rfl) (hy:evo t y=some (.string b):=by exact rfl):Ev G P ⟨dst,.binOp .neq T x y U,ty,pos,after,g⟩ t H (.bool (!decide (dC a=dC b))):=yf hx hy
theorem I4 {T U:TypeId}{x y:Operand}{a b:ByteArray}(hx:evo t x=some (.string a):=by exact rfl) (hy:evo t y=some (.string b):=by exact rfl) (h:a.size+b.size≤9223372036854775807:=by omega):Ev G P ⟨dst,.binOp .add T x y U,ty,pos,after,g⟩ t H (.string (a++b)):=jn hx hy h
theorem lel {T:TypeId}{x:Operand}{s:SV}{i b:Nat}{v:Value}{α:Type}{e:Enc α}{xs:List α}{y:α}(hx:evo t x=some (.pointer (s.elt b i 0)):=by exact rfl) (hT:One P T:=by infer_instance) (hs:Sl H s e xs:=by infer_instance) (a:e.sz=b:=by exact rfl) (ha:e.agg=false:=by exact rfl) (hy:xs[i]? =some y:=by first|assumption|rfl|exact Yi a8) (hv:kV e y v:=by infer_instance):Ev G P ⟨dst,.load T x,ty,pos,after,g⟩ t H v:=gT hx a ha y hy
theorem gr {T:TypeId}{x:Operand}{s:SV}{i a:Nat}{v:Value}{α:Type}{e:Enc α}{xs:List α}{y:α}(hx:evo t x=some (.pointer (s.elt a i 0)):=by exact rfl) (hT:Agg P T a:=by infer_instance) (hs:Sl H s e xs:=by infer_instance) (b:e.sz=a:=by exact rfl) (ha:e.agg=true:=by exact rfl) (hy:xs[i]? =some y:=by first|assumption|rfl|exact Yi a8) (hv:kV e y v:=by infer_instance):Ev G P ⟨dst,.load T x,ty,pos,after,g⟩ t H v:=Da hx b ha y hy
theorem lfl {T:TypeId}{x:Operand}{s:SV}{i o b:Nat}{v:Value}{α:Type}{e:Enc α}{xs:List α}{y:α}(hx:evo t x=some (.pointer (s.elt b i o)):=by exact rfl) (hT:One P T:=by infer_instance) (hs:Sl H s e xs:=by infer_instance) (a:e.sz=b:=by exact rfl) (hy:xs[i]? =some y:=by first|assumption|rfl|exact Yi a8) (hc:(e.f y)[o]? =some v:=by exact rfl):Ev G P ⟨dst,.load T x,ty,pos,after,g⟩ t H v:=ta hx a y hy hc
theorem bld {T:TypeId}{ps:List (Nat×Operand)}{a:List (Nat×Nat)}{z l:List Value}(vs:List (Nat×Value)) (hp:wc t ps=some vs:=by exact rfl) (hs:Str P T a z:=by infer_instance) (hf:Fil a z vs l:=by infer_instance):Ev G P ⟨dst,.build T ps.toArray,ty,pos,after,g⟩ t H (.agg l.toArray):=Mw (vs:=vs) hp
theorem lnn {x:Operand}{T E:TypeId}{s:SV}{α:Type}{e:Enc α}{xs:List α}(hx:evo t x=some s.val:=by exact rfl) (hT:Und P T (.slice E):=by infer_instance) (hs:Sl H s e xs:=by infer_instance):Ev G P ⟨dst,.call ⟨.builtin .len, #[x], #[T]⟩,ty,pos,after,g⟩ t H (.int .i64 ((xs.length:Nat):Int)):=PQ hx
theorem xO {x:Operand}{T:TypeId}{s:ByteArray}(hx:evo t x=some (.string s):=by exact rfl) (hT:Und P T .string:=by infer_instance):Ev G P ⟨dst,.call ⟨.builtin .len, #[x], #[T]⟩,ty,pos,after,g⟩ t H (.int .i64 ((s.size:Nat):Int)):=Db hx
end
section
variable {G:dJ}{P:Program}{N:Nat}{Q:Post}{t:Tm}{H:dD}{ops:Array Oper}{dst:Option Tmp}{ty:TypeId}{pos:String}{after:Array Edge}{l:List Oper}
theorem alc {T:TypeId}{s a:Nat}{z:Value}{cs:List Value}(hT:Inf P T s a z:=by infer_instance) (hv:qv z cs:=by infer_instance) (hd:iJ N dst=true:=by exact rfl) (k:∀b,O G P N ops l Q (put t dst (.pointer (some ⟨b,0,none⟩))) (Vr b cs::H)):O G P N ops (⟨dst,.alloc T,ty,pos,after,none⟩::l) Q t H:=CJ m9 hd (by rintro _ _ ⟨b,rfl,rfl⟩;exact k b)
theorem bxx {T:TypeId}{x:Operand}{v:Value}{cs:List Value}(hx:evo t x=some v:=by exact rfl) (hv:qv v cs:=by infer_instance) (hd:iJ N dst=true:=by exact rfl) (k:∀b,O G P N ops l Q (put t dst (.pointer (some ⟨b,0,none⟩))) (Vr b cs::H)):O G P N ops (⟨dst,.box T x,ty,pos,after,none⟩::l) Q t H:=CJ (x9 hx) hd (by rintro _ _ ⟨b,rfl,rfl⟩;exact k b)
theorem sto {T:TypeId}{x y:Operand}{b off s c:Nat}{z v:Value}{a l' cs:List Value}{C:Hp→dD}(hx:evo t x=some (.pointer (some ⟨b,off,none⟩)):=by exact rfl) (hy:evo t y=some v:=by exact rfl)
 (hT:Inf P T s c z:=by infer_instance) (hv:qv v cs:=by infer_instance) (hf:Foc H Vr b a C:=by infer_instance) (hl:Spl a off cs l':=by infer_instance) (hs:cs.length=s:=by exact rfl) (hd:iJ N dst=true:=by exact rfl) (k:O G P N ops l Q (put t dst undef) (C (Vr b l'))):O G P N ops (⟨dst,.store T x y,ty,pos,after,none⟩::l) Q t H:=CJ (ej hx hy hs) hd (by rintro _ _ ⟨rfl,rfl⟩;exact k)
theorem app {T T2 E g:TypeId}{x y:Operand}{s s2:SV}{b f:Nat}{z:Value}{α:Type}{e:Enc α}{xs ys:List α}{C:Hp→dD}(hx:evo t x=some s.val:=by exact rfl) (hy:evo t y=some s2.val:=by exact rfl) (hT:Und P T (.slice E):=by infer_instance) (hT2:Und P T2 (.slice g):=by infer_instance) (hE:Inf P E b f z:=by infer_instance) (hf:nM H s e xs C:=by infer_instance) (hs:Sl H s2 e ys:=by infer_instance)
 (d:b=e.sz:=by exact rfl) (c:z.cells.size=b:=by exact rfl) (hlim:(xs.length+ys.length)*f≤140737488355328:=by first|omega|(simp only[Ya,Yb,Yc];omega)|(simp;omega)) (hlim2:xs.length+ys.length≤140737488355328:=by first|omega|(simp only[Ya,Yb,Yc];omega)|(simp;omega)) (hd:iJ N dst=true:=by exact rfl)
 (k:∀a:SV,O G P N ops l Q (put t dst a.val) (C (Row a e (xs++ys)))):O G P N ops (⟨dst,.call ⟨.builtin .append, #[x,y], #[T,T2]⟩,ty,pos,after,none⟩::l) Q t H:=CJ (gf hx hy d c hlim hlim2) hd (by rintro _ _ ⟨a,rfl,rfl⟩;exact k a)
theorem fS {T E:TypeId}{g i:Nat}{z:Value}{f:Value}{d:Operand}{α:Type}(e:Enc α) {c:α}(a:evo t d=some f:=by exact rfl) (hT:Und P T (.slice E):=by infer_instance) (hE:Inf P E g i z:=by infer_instance) (hv1:gP e f c:=by infer_instance) (b:g=e.sz:=by exact rfl) (hd:iJ N dst=true:=by exact rfl) (k:∀s:SV,O G P N ops l Q (put t dst s.val) (Row s e [c]::H)):
 O G P N ops (⟨dst,.buildSlice T 1 #[(0,d)],ty,pos,after,none⟩::l) Q t H:=CJ (fK e a b) hd (by rintro _ _ ⟨h,rfl,rfl⟩;exact k h)
end
end Go.Sx
namespace Go.Sx
open Go
theorem Aj {G:dJ}{P:Program}{ops:Array Oper}{loud:Nat→Bool}{F:Nat→dD→Prop}{K:Act→dD→Prop}{H0:dD}(b:∀i,F i H0):∀(fuel:Nat) (listed:Array Bool) (a:Act) (H:dD),sA G P ops tz (at_ H0) K fuel listed a H→sA G P ops loud F K fuel listed a H
 | 0,listed,a,H,h=>by
  obtain rfl:H=H0:=h.1 0 (λ_ _ _ hl=>by cases hl);exact⟨λi _=>b i,h.2⟩
 |fuel+1,listed,a,H,h=>by
  obtain rfl:H=H0:=h.1 0 (λ_ _ _ hl=>by cases hl);exact⟨λi _=>b i,h.2.1,λi hi=>(h.2.2 i hi).mono λa H h=>Aj b fuel _ a H h⟩
theorem uB {G:dJ}{P:Program}{N:Nat}{Q:Post}{ops:Array Oper}{loud:Nat→Bool}{F:Nat→dD→Prop}{fuel:Nat}{listed:Array Bool}{t:Tm}{H:dD}(b:∀i,F i H) (h:An G P N ops tz (at_ H) Q fuel listed t H):An G P N ops loud F Q fuel listed t H:=
 ⟨λa ha=>Aj b _ _ _ _ (h.go a ha)⟩
theorem w4 {G:dJ}{P:Program}{N:Nat}{Q:Post}{t:Tm}{H:dD}{ops:Array Oper}{loud:Nat→Bool}{F:Nat→dD→Prop}{fuel:Nat}{listed:Array Bool}{dst:Option Tmp}{op:Op}{ty:TypeId}{pos:String}{after:Array Edge}{k d:Nat}{want:Bool}(i:Nat) (hi:ops[i]? =some ⟨dst,op,ty,pos,after,some (k,want)⟩) (hk:(ops[k]?).bind (·.dst)=some d) (hv:look t d=some (.bool !want)) (hr:Region.ready .any ops listed= [i]) (hd:iJ N dst=true)
 (hF:∀i,vD ops loud i listed→F i H) (h:An G P N ops loud F Q fuel (listed.setIfInBounds i true) (put t dst undef) H):An G P N ops loud F Q (fuel+1) listed t H:=
 ⟨λa ha=>⟨hF,λh0=>(cw),λj hj=>by
  rw[hr]at hj;obtain rfl:j=i:=by simpa using hj
  unfold OpK;simp only[hi];rw[if_neg (dh)];exact h.go _ (ha.put hd undef)⟩⟩
theorem YT {G:dJ}{P:Program}{N:Nat}{Q:Post}{t:Tm}{H:dD}{ops:Array Oper}{loud:Nat→Bool}{F:Nat→dD→Prop}{fuel:Nat}{listed:Array Bool}{dst:Option Tmp}{op:Op}{ty:TypeId}{pos:String}{after:Array Edge}{j d:Nat}{want:Bool}(i:Nat) (hi:ops[i]? =some ⟨dst,op,ty,pos,after,some (j,want)⟩:=by exact rfl) (hj:(ops[j]?).bind (·.dst)=some d:=by exact rfl) (hv:look t d=some undef:=by exact rfl) (hl:loud i=false:=by exact rfl) (a:lP ops listed i=true:=by kernel_rfl) (hd:iJ N dst=true:=by exact rfl)
 (k:An G P N ops loud F Q fuel (listed.setIfInBounds i true) (put t dst undef) H):An G P N ops loud F Q (fuel+1) listed t H:=
 uA hi hl a hd (λ_ ha=>.inr ⟨tq (o:=⟨dst,op,ty,pos,after,some (j,want)⟩) ha rfl hj hv,rfl⟩) k
theorem o9 {G:dJ}{P:Program}{N:Nat}{Q:Post}{t:Tm}{H:dD}{ops:Array Oper}{loud:Nat→Bool}{F:Nat→dD→Prop}{fuel:Nat}{listed:Array Bool}{dst:Option Tmp}{op:Op}{ty:TypeId}{pos:String}{after:Array Edge}{j d:Nat}{want b:Bool}(i:Nat) (hi:ops[i]? =some ⟨dst,op,ty,pos,after,some (j,want)⟩) (hj:(ops[j]?).bind (·.dst)=some d) (hv:look t d=some (.bool want)) (hl:loud i=false) (c:lP ops listed i=true) (hd:iJ N dst=true)
 (a:Qv G P (F i) ⟨dst,op,ty,pos,after,some (j,want)⟩ t (.bool b)) (h1:b=true→An G P N ops loud F Q fuel (listed.setIfInBounds i true) (put t dst (.bool true)) H) (h2:b=false→An G P N ops loud F Q fuel (listed.setIfInBounds i true) (put t dst (.bool false)) H):An G P N ops loud F Q (fuel+1) listed t H:=by
 cases b with
 |true=>exact lH i hi hj hv hl c hd a (h1 rfl)
 |false=>exact lH i hi hj hv hl c hd a (h2 rfl)
section
variable {G:dJ}{P:Program}{N:Nat}{Q:Post}{t:Tm}{H:dD}{ops:Array Oper}
theorem HH {o:Oper}{a:Act}{K K':Act→World→Prop}{Q1 c:Exit→Act→World→Prop}(hk:∀a w,K a w→K' a w) (b:∀e a w,e≠ .normal→Q1 e a w→c e a w) {r:Result Next}(h:o.upon P a K Q1 r):o.upon P a K' c r:=by
 have hl:LetsOut Q1→LetsOut c:=λ⟨a,w,h⟩=>⟨a,w,b _ _ _ aq h⟩;cases r with
 |ok n w=>
  cases n <;> simp only[Oper.upon]at h⊢
  case value=>exact hk _ _ h
  case skip=>exact hk _ _ h
  case defer=>exact hk _ _ h
  case enter=>
   refine h.mono λe d he=>?_;cases e with
   |returned v=>exact hk _ _ he
   |panicked ch=>exact b _ _ _ aq he
   |outgrown=>exact hl he
  case row=>exact h.mono λv d he=>hk _ _ he
 |halt x w=>
  cases x <;> simp only[Oper.upon]at h⊢
  all_goals exact b _ _ _ aq h
theorem sL {Q1 d:Exit→Act→World→Prop}(b:∀e a w,e≠ .normal→Q1 e a w→d e a w) {f:List Oper}:∀(l1:List Oper) (a:Act) (w:World),wpList P ops Q1 l1 a w→(∀a w,Q1 .normal a w→wpList P ops d f a w)→wpList P ops d (l1++f) a w
 | [],a,w,h,hn=>hn _ _ h
 |o::l1,a,w,h,hn=>by
  rw[Yd];unfold wpList at h⊢
  split at h
  ·rename_i c;rw[if_pos c];rcases h with h|⟨h1,i,g,h2⟩
   ·exact .inl (HH (λa w hk=>sL b l1 a w hk hn) b h)
   ·exact .inr ⟨h1,i,g,b _ _ _ aq h2⟩
  ·rename_i c;rw[if_neg c];exact sL b l1 _ _ h hn
def FL (t':Tm) (H:dD):Post:=λe t1 H1=>e=.normal∧H1=H∧Sub t' t1
theorem QX (n:Nat) (b:Tm) {l:List Oper}(h:O G P N ops (l.take n) (FL b H) t H) (k:O G P N ops (l.drop n) Q b H):O G P N ops l Q t H:=by
 refine⟨λa w ha f=>?_⟩;rw[←Vd n l];refine sL (Q1:=up G N (FL b H)) ?_ _ _ _ (h.go a w ha f) ?_
 ·rintro e a w c ⟨d,g,_,_,he,_⟩;exact absurd he c
 ·rintro a w ⟨d,g,h1,h2,_,rfl,h4⟩;exact k.go a w (h1.sub h4) h2
theorem Qp {t a:Tm}{d:Nat}{v:Value}(h:look t d=none) (hs:Sub t a):Sub t ((d,v)::a):=by
 intro n u hn;simp only[look];cases hb:Nat.beq d n with
 |true=>
  obtain rfl:=V1 hb;rw[h]at hn;cases hn
 |false=>exact hs n u hn
theorem edq {a b:Tm}{d:Tmp}{v u:Value}(h:look a d=some u:=by exact rfl) (hv:u=v:=by exact rfl) (hs:Sub b a:=by(repeat (first|exact Sub.refl|refine Qp (by exact rfl) ?_))):FL ((d,v)::b) H .normal a H:=⟨rfl,rfl,.cons (hv ▸ h) hs⟩
theorem dV {l:List Oper}(n:Nat) (d:Tmp) {a:Tmp}{b c:Bool}{p:Prop}(n1:b=true→p:=by intro h;first|(simp only[Xq,Xy,Uf,X2,Xu,Uh,Ut,Ua,ne_eq,V8]at h;exact h)|exact h)
 (m:O G P N ops (l.take n) (FL ((d,.bool false)::t) H) ((a,.bool false)::t) H:=by(repeat (first|exact L0 edq|refine KZ rfl rfl rfl ?_|refine AP rfl rfl rfl ?_|refine L7 (vt rfl rfl) rfl ?_|refine wq rfl rfl rfl (vt rfl rfl) ?_)))
 (k:p→O G P N ops (l.take n) (FL ((d,.bool c)::t) H) ((a,.bool true)::t) H)
 (q:O G P N ops (l.drop n) Q ((d,.bool (b&&c))::t) H):O G P N ops l Q ((a,.bool b)::t) H:=by
 refine QX n _ ?_ q;cases hb:b with
 |true=>rw[Xv];exact k (n1 hb)
 |false=>rw[Vk];exact m
theorem ep {l:List Oper}(n:Nat) (d:Tmp) {a:Tmp}{b c:Bool}{p:Prop}(n1:b=false→p:=by intro h;first|(simp only[Xq,Xy,Uf,X2,Xu,Uh,Ut,Ua,ne_eq,V8]at h;exact h)|exact h)
 (m:O G P N ops (l.take n) (FL ((d,.bool true)::t) H) ((a,.bool true)::t) H:=by(repeat (first|exact L0 edq|refine KZ rfl rfl rfl ?_|refine AP rfl rfl rfl ?_|refine L7 (vq rfl rfl) rfl ?_|refine wq rfl rfl rfl (vq rfl rfl) ?_)))
 (k:p→O G P N ops (l.take n) (FL ((d,.bool c)::t) H) ((a,.bool false)::t) H)
 (q:O G P N ops (l.drop n) Q ((d,.bool (b ||c))::t) H):O G P N ops l Q ((a,.bool b)::t) H:=by
 refine QX n _ ?_ q;cases hb:b with
 |true=>rw[Bool.true_or];exact m
 |false=>rw[Q8];exact k (n1 hb)
def wo (ks:List Nat):Tm→Tm
 | []=>[]
 |(n,v)::t=>bif ks.elem n then wo ks t else(n,v)::wo ks t
theorem FP {ks:List Nat}{t:Tm}{n:Nat}{v:Value}(h:look (wo ks t) n=some v):ks.elem n=false∧look t n=some v:=by
 induction t with
 |nil=>cases h
 |cons p t ih=>
  obtain⟨m,u⟩:=p;simp only[wo]at h;cases hm:ks.elem m with
  |true=>
   rw[hm]at h;obtain⟨h1,h2⟩:=ih h;refine⟨h1,?_⟩;simp only[look];cases hb:Nat.beq m n with
   |true=>obtain rfl:=V1 hb;rw[hm]at h1;cases h1
   |false=>exact h2
  |false=>
   rw[hm]at h;simp only[cond_false,look]at h⊢;cases hb:Nat.beq m n with
   |true=>obtain rfl:=V1 hb;rw[hb]at h;exact⟨hm,h⟩
   |false=>rw[hb]at h;exact ih h
theorem FQ {ks:List Nat}{t:Tm}:Sub (wo ks t) t:=λ_ _ h=>(FP h).2
theorem FO {ks:List Nat}{t a:Tm}{d:Nat}{v:Value}(h:ks.elem d=true) (hs:Sub (wo ks t) a):Sub (wo ks t) ((d,v)::a):=by
 intro n u hn;simp only[look];cases hb:Nat.beq d n with
 |true=>
  obtain rfl:=V1 hb;rw[(FP hn).1]at h;cases h
 |false=>exact hs n u hn
theorem Ll (g r:Tm) (n:Nat):look (g++r) n=match look g n with|some v=>some v|none=>look r n:=by
 induction g with
 |nil=>rfl
 |cons p g ih=>
  obtain⟨m,u⟩:=p;simp only[Yd,look];cases Nat.beq m n with
  |true=>rfl
  |false=>simp only[cond_false];exact ih
theorem Sub.app {g r a:Tm}(b:Sub g a) (hr:Sub r a):Sub (g++r) a:=by
 intro n v hn;rw[Ll]at hn;cases hk:look g n with
 |some w=>rw[hk]at hn;exact b n v (by rw[hk];exact hn)
 |none=>rw[hk]at hn;exact hr n v hn
def Nb (F:Tm) (H2:dD) (Q:Post):Post:=λe t1 H1=>match e with
 | .normal=>Sub F t1∧dH H1 H2
 |e=>Q e t1 H1
theorem Rq {x y:Code}(gs:Tm) (ks:List Nat) (b:dD) (h:W G P N x (Nb (gs++wo ks t) b Q) t H) (k:W G P N y Q (gs++wo ks t) b):W G P N (.seq x y) Q t H:=
 yV (Al h λe t1 H1 a=>by
  cases e with
  |normal=>exact FR a.1 (wO a.2 k)
  |_=>exact a)
theorem ld {x y:Code}(gs:Tm) (ks:List Nat) (h:W G P N x (Nb (gs++wo ks t) H Q) t H) (k:W G P N y Q (gs++wo ks t) H):W G P N (.seq x y) Q t H:=Rq gs ks H h k
def Nc {α:Type}(F:α→Tm) (hp:α→dD) (p:α→Prop) (Q:Post):Post:=λe t1 H1=>match e with
 | .normal=>∃a,Sub (F a) t1∧dH H1 (hp a)∧p a
 |e=>Q e t1 H1
theorem ru {x y:Code}(α:Type) (p:α→Prop) (gs:α→Tm) (ks:List Nat) (hp:α→dD) (hc:dD) (h:W G P N x (Nc (λa=>gs a++wo ks t) (λa=>hp a++hc) p Q) t H) (k:∀a,p a→W G P N y Q (gs a++wo ks t) (hp a++hc)):W G P N (.seq x y) Q t H:=
 yV (Al h λe t1 H1 b=>by
  cases e with
  |normal=>obtain⟨a,h1,h2,h3⟩:=b;exact FR h1 (wO h2 (k a h3))
  |_=>exact b)
theorem iu {x y:Code}(α:Type) (p:α→Prop) (gs:α→Tm) (ks:List Nat) (h:W G P N x (Nc (λa=>gs a++wo ks t) (λ_=>[]++H) p Q) t H) (k:∀a,p a→W G P N y Q (gs a++wo ks t) H):W G P N (.seq x y) Q t H:=ru α p gs ks (λ_=>[]) H h k
theorem jnE {α:Type}{p:α→Prop}{gs:α→Tm}{ks:List Nat}{hp:α→dD}{hc:dD}{c b:Tm}{d:dD}(a:α) (hs:Sub (gs a) b:=by((try dsimp only);(repeat (first|exact Sub.nil|apply Sub.cons (by exact rfl))))) (hr:Sub (wo ks c) b:=by(repeat (first|exact FQ|apply FO (by exact rfl)))) (hh:dH d (hp a++hc):=by(try dsimp only[Yd,Ye]);exact hsb) (q:p a):Nc (λa=>gs a++wo ks c) (λa=>hp a++hc) p Q .normal b d:=⟨a,.app hs hr,hh,q⟩
theorem jb {a b:Bool}(h:a=b):some (Value.bool a)=some (Value.bool b):=h ▸ rfl
theorem jne {gs:Tm}{ks:List Nat}{b a:Tm}{d c:dD}(hs:Sub gs a:=by(repeat (first|exact Sub.nil|apply Sub.cons (by exact rfl)))) (hr:Sub (wo ks b) a:=by(repeat (first|exact FQ|apply FO (by exact rfl)))) (hh:dH d c:=by exact hsb):Nb (gs++wo ks b) c Q .normal a d:=⟨.app hs hr,hh⟩
theorem iU {dst:Option Tmp}{ty:TypeId}{pos:String}{after:Array Edge}{l:List Oper}{v:Value}{j d:Nat}{want:Bool}{f:FuncId}{xs:List Operand}{a:Array TypeId}{vs:List Value}{b:dD}(hx:ui t xs=some vs:=by exact rfl) (hc:SC G P f vs H (λu c=>u=v∧c=b)) (hj:(ops[j]?).bind (·.dst)=some d:=by exact rfl) (hv:look t d=some (.bool want):=by exact rfl) (hd:iJ N dst=true:=by exact rfl) (k:O G P N ops l Q (put t dst v) b):
 O G P N ops (⟨dst,.call ⟨.value (.func f),xs.toArray,a⟩,ty,pos,after,some (j,want)⟩::l) Q t H:=Td hj hv hd (lU hx hc) (by rintro _ _ ⟨rfl,rfl⟩;exact k)
theorem vb {a b:Bool}(h:a=true↔b=true):Value.bool a=Value.bool b:=congrArg _ (U2.2 h)
theorem bq {a b:Bool}(h:a=true↔b=true):a=b:=U2.2 h
end
theorem e0_ {G:dJ}{P:Program}{N:Nat}{Q:Post}{t:Tm}{H:dD}{ops:Array Oper}{dst:Option Tmp}{ty:TypeId}{pos:String}{after:Array Edge}{l:List Oper}{op:Op}{v:Value}(h:Ev G P ⟨dst,op,ty,pos,after,none⟩ t H v:=by first|exact mv|exact asn|exact exr|exact fla|exact ldv|exact iad|exact lnn|exact ilt|exact pkt|exact pkf|exact ixa|exact lds|exact nck|exact ieq|exact ine|exact xO|exact gr|exact isb|exact lel|exact ige|exact igt|exact mN|exact fle|exact ixs|exact ile|exact lfl|exact iml) (hd:iJ N dst=true:=by exact rfl) (k:O G P N ops l Q (put t dst v) H):O G P N ops (⟨dst,op,ty,pos,after,none⟩::l) Q t H:=L7 h hd k
theorem e1_ {G:dJ}{P:Program}{N:Nat}{Q:Post}{t:Tm}{H:dD}{ops:Array Oper}{dst:Option Tmp}{ty:TypeId}{pos:String}{after:Array Edge}{l:List Oper}{op:Op}{v:Value}{j d:Nat}{want:Bool}(hj:(ops[j]?).bind (·.dst)=some d:=by exact rfl) (hv:look t d=some (.bool want):=by exact rfl) (h:Ev G P ⟨dst,op,ty,pos,after,some (j,want)⟩ t H v:=by first|exact mv|exact asn|exact exr|exact fla|exact ldv|exact iad|exact lnn|exact ilt|exact pkt|exact pkf|exact ixa|exact lds|exact nck|exact ieq|exact ine|exact xO|exact gr|exact isb|exact lel|exact ige|exact igt|exact mN|exact fle|exact ixs|exact ile|exact lfl|exact iml) (hd:iJ N dst=true:=by exact rfl) (k:O G P N ops l Q (put t dst v) H):O G P N ops (⟨dst,op,ty,pos,after,some (j,want)⟩::l) Q t H:=wq hj hv hd h k
theorem dE {G:dJ}{P:Program}{N:Nat}{Q:Post}{t:Tm}{H:dD}{ops:Array Oper}{dst:Option Tmp}{ty:TypeId}{pos:String}{after:Array Edge}{op:Op}{v:Value}{fuel:Nat}{listed:Array Bool}{H0:dD}(hi:ops[(ops.size-1-fuel)]? =some ⟨dst,op,ty,pos,after,none⟩:=by exact rfl) (hb:lP ops listed (ops.size-1-fuel)=true:=by kernel_rfl) (hd:iJ N dst=true:=by exact rfl) (q:Ev G P ⟨dst,op,ty,pos,after,none⟩ t H0 v:=by first|exact mv|exact asn|exact exr|exact fla|exact ldv|exact iad|exact lnn|exact ilt|exact pkt|exact pkf|exact ixa|exact lds|exact nck|exact ieq|exact ine|exact xO|exact gr|exact isb|exact lel|exact ige|exact igt|exact mN|exact fle|exact ixs|exact ile|exact lfl|exact iml) (k:An G P N ops tz (at_ H0) Q fuel (listed.setIfInBounds (ops.size-1-fuel) true) (put t dst v) H):An G P N ops tz (at_ H0) Q (fuel+1) listed t H:=as_ (ops.size-1-fuel) hi hb hd q k
theorem dG {G:dJ}{P:Program}{N:Nat}{Q:Post}{t:Tm}{H:dD}{ops:Array Oper}{dst:Option Tmp}{ty:TypeId}{pos:String}{after:Array Edge}{op:Op}{v:Value}{fuel:Nat}{listed:Array Bool}{H0:dD}{j d:Nat}{want:Bool}(hi:ops[(ops.size-1-fuel)]? =some ⟨dst,op,ty,pos,after,some (j,want)⟩:=by exact rfl) (hj:(ops[j]?).bind (·.dst)=some d:=by exact rfl) (hv:look t d=some (.bool want):=by exact rfl) (hb:lP ops listed (ops.size-1-fuel)=true:=by kernel_rfl) (hd:iJ N dst=true:=by exact rfl) (q:Ev G P ⟨dst,op,ty,pos,after,some (j,want)⟩ t H0 v:=by first|exact mv|exact asn|exact exr|exact fla|exact ldv|exact iad|exact lnn|exact ilt|exact pkt|exact pkf|exact ixa|exact lds|exact nck|exact ieq|exact ine|exact xO|exact gr|exact isb|exact lel|exact ige|exact igt|exact mN|exact fle|exact ixs|exact ile|exact lfl|exact iml) (k:An G P N ops tz (at_ H0) Q fuel (listed.setIfInBounds (ops.size-1-fuel) true) (put t dst v) H):An G P N ops tz (at_ H0) Q (fuel+1) listed t H:=at2 (ops.size-1-fuel) hi hj hv hb hd q k
theorem dO {G:dJ}{P:Program}{N:Nat}{Q:Post}{t:Tm}{H:dD}{ops:Array Oper}{dst:Option Tmp}{ty:TypeId}{pos:String}{after:Array Edge}{op:Op}{fuel:Nat}{listed:Array Bool}{H0:dD}{j d:Nat}{want:Bool}(hi:ops[(ops.size-1-fuel)]? =some ⟨dst,op,ty,pos,after,some (j,want)⟩:=by exact rfl) (hj:(ops[j]?).bind (·.dst)=some d:=by exact rfl) (hv:look t d=some (.bool !want):=by exact rfl) (hb:lP ops listed (ops.size-1-fuel)=true:=by kernel_rfl) (hd:iJ N dst=true:=by exact rfl) (k:An G P N ops tz (at_ H0) Q fuel (listed.setIfInBounds (ops.size-1-fuel) true) (put t dst undef) H):An G P N ops tz (at_ H0) Q (fuel+1) listed t H:=ao_ (ops.size-1-fuel) hi hj hv rfl hb hd k
theorem dU {G:dJ}{P:Program}{N:Nat}{Q:Post}{t:Tm}{H:dD}{ops:Array Oper}{dst:Option Tmp}{ty:TypeId}{pos:String}{after:Array Edge}{op:Op}{fuel:Nat}{listed:Array Bool}{H0:dD}{j d:Nat}{want:Bool}(hi:ops[(ops.size-1-fuel)]? =some ⟨dst,op,ty,pos,after,some (j,want)⟩:=by exact rfl) (hj:(ops[j]?).bind (·.dst)=some d:=by exact rfl) (hv:look t d=some undef:=by exact rfl) (hb:lP ops listed (ops.size-1-fuel)=true:=by kernel_rfl) (hd:iJ N dst=true:=by exact rfl) (k:An G P N ops tz (at_ H0) Q fuel (listed.setIfInBounds (ops.size-1-fuel) true) (put t dst undef) H):An G P N ops tz (at_ H0) Q (fuel+1) listed t H:=YT (ops.size-1-fuel) hi hj hv rfl hb hd k
theorem dF {G:dJ}{P:Program}{N:Nat}{Q:Post}{t:Tm}{H:dD}{ops:Array Oper}{dst:Option Tmp}{ty:TypeId}{pos:String}{after:Array Edge}{op:Op}{v:Value}{loud:Nat→Bool}{F:Nat→dD→Prop}{fuel:Nat}{listed:Array Bool}(hi:ops[(ops.size-1-fuel)]? =some ⟨dst,op,ty,pos,after,none⟩:=by exact rfl) (hl:loud (ops.size-1-fuel)=false:=by exact rfl) (hb:lP ops listed (ops.size-1-fuel)=true:=by kernel_rfl) (hd:iJ N dst=true:=by exact rfl) (q:∀H,F (ops.size-1-fuel) H→Ev G P ⟨dst,op,ty,pos,after,none⟩ t H v:=by intro H hH;first|(first|exact mv|exact asn|exact exr|exact fla|exact ldv|exact iad|exact lnn|exact ilt|exact pkt|exact pkf|exact ixa|exact lds|exact nck|exact ieq|exact ine|exact xO|exact gr|exact isb|exact lel|exact ige|exact igt|exact mN|exact fle|exact ixs|exact ile|exact lfl|exact iml)|((try have f0:=hH rfl);(try have f1:=hH.1 rfl);(try have g1:=hH.2 rfl);(try have f2:=hH.2.1 rfl);(try have g2:=hH.2.2 rfl);(try have f3:=hH.2.2.1 rfl);(try have g3:=hH.2.2.2 rfl);(try have f4:=hH.2.2.2.1 rfl);(try have g4:=hH.2.2.2.2 rfl);(try have f5:=hH.2.2.2.2.1 rfl);(try have g5:=hH.2.2.2.2.2 rfl);(try have f6:=hH.2.2.2.2.2.1 rfl);(try have g6:=hH.2.2.2.2.2.2 rfl);(try have f7:=hH.2.2.2.2.2.2.1 rfl);(try have g7:=hH.2.2.2.2.2.2.2 rfl);(try have f8:=hH.2.2.2.2.2.2.2.1 rfl);(try have g8:=hH.2.2.2.2.2.2.2.2 rfl);(try have f9:=hH.2.2.2.2.2.2.2.2.1 rfl);(try have g9:=hH.2.2.2.2.2.2.2.2.2 rfl);first|exact mv|exact asn|exact exr|exact fla|exact ldv|exact iad|exact lnn|exact ilt|exact pkt|exact pkf|exact ixa|exact lds|exact nck|exact ieq|exact ine|exact xO|exact gr|exact isb|exact lel|exact ige|exact igt|exact mN|exact fle|exact ixs|exact ile|exact lfl|exact iml)) (k:An G P N ops loud F Q fuel (listed.setIfInBounds (ops.size-1-fuel) true) (put t dst v) H):An G P N ops loud F Q (fuel+1) listed t H:=af_ (ops.size-1-fuel) hi hl hb hd (ea q) k
theorem aN {G:dJ}{P:Program}{N:Nat}{Q:Post}{t:Tm}{H:dD}{ops:Array Oper}{dst:Option Tmp}{ty:TypeId}{pos:String}{after:Array Edge}{op:Op}{v:Value}{loud:Nat→Bool}{F:Nat→dD→Prop}{fuel:Nat}{listed:Array Bool}(i:Nat) (hi:ops[i]? =some ⟨dst,op,ty,pos,after,none⟩) (q:∀H,F i H→Ev G P ⟨dst,op,ty,pos,after,none⟩ t H v) (k:An G P N ops loud F Q fuel (listed.setIfInBounds i true) (put t dst v) H) (hl:loud i=false:=by exact rfl) (hb:lP ops listed i=true:=by kernel_rfl) (hd:iJ N dst=true:=by exact rfl):An G P N ops loud F Q (fuel+1) listed t H:=af_ i hi hl hb hd (ea q) k
theorem aS {G:dJ}{P:Program}{N:Nat}{Q:Post}{t:Tm}{H:dD}{ops:Array Oper}{dst:Option Tmp}{ty:TypeId}{pos:String}{after:Array Edge}{op:Op}{loud:Nat→Bool}{F:Nat→dD→Prop}{fuel:Nat}{listed:Array Bool}{R:Value→dD→Prop}(i:Nat) (hi:ops[i]? =some ⟨dst,op,ty,pos,after,none⟩) (hs:St G P ⟨dst,op,ty,pos,after,none⟩ t H R) (h:∀v a,R v a→An G P N ops loud F Q fuel (listed.setIfInBounds i true) (put t dst v) a) (hr:Region.ready .any ops listed= [i]:=by kernel_rfl) (hd:iJ N dst=true:=by exact rfl) (hF:∀k,vD ops loud k listed→F k H:=by intro k hk;first|exact trivial|(try dsimp only);(repeat' (first|(intro hi;first|(subst hi;infer_instance)|exact absurd hk (by subst hi;exact iS aa))|apply And.intro))):An G P N ops loud F Q (fuel+1) listed t H:=kg i hi hr hd hF hs h
theorem aZ {G:dJ}{P:Program}{N:Nat}{Q:Post}{t:Tm}{H:dD}{ops:Array Oper}{loud:Nat→Bool}{F:Nat→dD→Prop}{listed:Array Bool}(h:Q .normal t H) (hr:(Region.ready .any ops listed).isEmpty=true:=by kernel_rfl) (hF:∀k,vD ops loud k listed→F k H:=by intro k hk;first|exact trivial|(try dsimp only);(repeat' (first|(intro hi;first|(subst hi;infer_instance)|exact absurd hk (by subst hi;exact iS aa))|apply And.intro))):An G P N ops loud F Q 0 listed t H:=FF hr hF h
structure Hdn (Q:Prop):Prop where
 go:Q
theorem gk {P Q:Prop}(h:Hdn Q→P:=by
 intro k
 repeat (first
  |(with_reducible change O _ _ _ _ _ _ _ _);(first|refine e0_ (k:=?_)|refine on_ ?_|refine of_ (k:=?_)|refine sto (k:=?_)|refine e1_ (k:=?_)|refine ou_ (k:=?_))
  |(with_reducible change W _ _ _ _ _ _ _);(with_reducible first|refine ws_ ?_|refine wr_ ?_|refine wk_ ?_|refine we_ ?_|refine wt_ ?_|refine wb_ ?_)
  |(with_reducible first|refine qn_ ?_|refine bn_ ?_|refine qe_ ?_|refine le_ ?_|refine bh_ ?_|refine qr_ ?_|refine br_ ?_|refine lr_ ?_)
  |(with_reducible change An _ _ _ _ _ _ _ _ _ _ _);(first|refine dE (k:=?_)|refine dG (k:=?_)|refine dO (k:=?_)|refine dU (k:=?_)|refine az_ (k:=?_)|refine dF (k:=?_)))
 exact k.go) (k:Q):P:=h ⟨k⟩
theorem go {P Q:Prop}(k:Q) (h:Hdn Q→P:=by refine λk=>gk (k:=k.go)):P:=h ⟨k⟩
theorem gW {R:Prop}{G:dJ}{P:Program}{N:Nat}{Q:Post}{t:Tm}{H:dD}{b:Bool}{c:Operand}{x y:Code}{p q:Prop}(k:p→W G P N x Q t H) (m:q→W G P N y Q t H) (h:Hdn (W G P N (.cond c x y) Q t H)→R:=by refine λk=>gk (k:=k.go)) (hc:evo t c=some (.bool b):=by exact rfl) (n1:b=true→p:=by intro h;first|(simp only[Xq,Xy,Uf,X2,Xu,Uh,Ut,Ua,ne_eq,V8]at h;exact h)|exact h) (n2:b=false→q:=by intro h;first|(simp only[Xq,Xy,Uf,X2,Xu,Uh,Ut,Ua,ne_eq,V8]at h;exact h)|exact h):R:=h ⟨wi_ (hc:=hc) (n1:=n1) (n2:=n2) (k:=k) (m:=m)⟩
theorem rT {P:Program}{t:Tm}{H:dD}{fn:Func}{K:Value→dD→Prop}{e:Exit}{rs:List ResultVar}{vs:List Value}(hfn:fn.results=rs.toArray:=by exact rfl) (he:e=.normal∨e=.ret:=by first|exact .inr rfl|exact .inl rfl) (hr:qu P t H rs vs:=by(repeat (first|exact qu.nil|apply qu.cons (.tmp rfl)|apply Zw (by exact rfl) (by infer_instance) (by infer_instance)|apply rvc (by exact rfl) (by infer_instance) (by infer_instance) (by exact rfl)))) (k:K (jt vs) H):N9 P fn K e t H:=rt_ hfn he hr k
theorem gR {R:Prop}{P:Program}{t:Tm}{H:dD}{fn:Func}{K:Value→dD→Prop}{e:Exit}{rs:List ResultVar}{vs:List Value}(k:K (jt vs) H) (h:Hdn (N9 P fn K e t H)→R:=by refine λk=>gk (k:=k.go)) (hfn:fn.results=rs.toArray:=by exact rfl) (he:e=.normal∨e=.ret:=by first|exact .inr rfl|exact .inl rfl) (hr:qu P t H rs vs:=by(repeat (first|exact qu.nil|apply qu.cons (.tmp rfl)|apply Zw (by exact rfl) (by infer_instance) (by infer_instance)|apply rvc (by exact rfl) (by infer_instance) (by infer_instance) (by exact rfl)))):R:=h ⟨rt_ hfn he hr k⟩
theorem gZ {R:Prop}{P:Program}{t:Tm}{H:dD}{fn:Func}{K:Value→dD→Prop}{e:Exit}{rs:List ResultVar}{vs:List Value}(h:Hdn (N9 P fn K e t H)→R:=by refine λk=>gk (k:=k.go)) (hfn:fn.results=rs.toArray:=by exact rfl) (he:e=.normal∨e=.ret:=by first|exact .inr rfl|exact .inl rfl) (hr:qu P t H rs vs:=by(repeat (first|exact qu.nil|apply qu.cons (.tmp rfl)|apply Zw (by exact rfl) (by infer_instance) (by infer_instance)|apply rvc (by exact rfl) (by infer_instance) (by infer_instance) (by exact rfl)))) (k:K (jt vs) H:=by exact⟨_,hsb,rfl,rfl⟩):R:=h ⟨rt_ hfn he hr k⟩
theorem gE {α:Type}(l:List α) (i:Nat) (h:i<l.length:=by omega):∃x,l[i]? =some x:=⟨_,Yi h⟩
theorem aF {G:dJ}{P:Program}{N:Nat}{Q:Post}{t:Tm}{H:dD}{ops:Array Oper}{dst:Option Tmp}{ty:TypeId}{pos:String}{after:Array Edge}{op:Op}{v:Value}{loud:Nat→Bool}{F:Nat→dD→Prop}{fuel:Nat}{listed:Array Bool}(i:Nat) (hi:ops[i]? =some ⟨dst,op,ty,pos,after,none⟩:=by exact rfl) (hl:loud i=false:=by exact rfl) (hb:lP ops listed i=true:=by kernel_rfl) (hd:iJ N dst=true:=by exact rfl) (q:∀H,F i H→Ev G P ⟨dst,op,ty,pos,after,none⟩ t H v:=by intro H hH;first|exact mv|exact asn|exact exr|exact fla|exact ldv|exact iad|exact lnn|exact ilt|exact pkt|exact pkf|exact ixa|exact lds|exact nck|exact ieq|exact ine|exact xO|exact gr|exact isb|exact lel|exact ige|exact igt|exact mN|exact fle|exact ixs|exact ile|exact lfl|exact iml) (k:An G P N ops loud F Q fuel (listed.setIfInBounds i true) (put t dst v) H):An G P N ops loud F Q (fuel+1) listed t H:=af_ i hi hl hb hd (ea q) k
theorem sWk {G:dJ}{P:Program}{H:dD}{f:FuncId}{fn:Func}{c:Code}{args:List Value}{K:Value→dD→Prop}{N:Nat}(hf:P.funcs[f]? =some fn) (h:W G P N c (N9 P fn (λv a=>∃n,dH a n∧K v n)) (w3 0 args) H) (hN:fn.ntmps=N:=by exact rfl) (hb:fn.body=some c:=by exact rfl) (hn:(fn.name== "runtime.NumGoroutine")=false:=by kernel_rfl) (hle:args.length≤N:=by exact Nat.le_of_ble_eq_true rfl):SC G P f args H K:=SC.out (YV hf hb hN hn hle h)
theorem c0_ {G:dJ}{P:Program}{N:Nat}{Q:Post}{t:Tm}{H:dD}{ops:Array Oper}{dst:Option Tmp}{ty:TypeId}{pos:String}{after:Array Edge}{l:List Oper}{f:FuncId}{xs:List Operand}{ats:Array TypeId}{K:Value→dD→Prop}(hx:ui t xs=some []) (hc:SC G P f [] H K) (k:∀v a,K v a→O G P N ops l Q (put t dst v) a) (hd:iJ N dst=true:=by exact rfl):O G P N ops (⟨dst,.call ⟨.value (.func f),xs.toArray,ats⟩,ty,pos,after,none⟩::l) Q t H:=s_ (lU hx hc) k hd
theorem d0_ {G:dJ}{P:Program}{N:Nat}{Q:Post}{t:Tm}{H:dD}{ops:Array Oper}{dst:Option Tmp}{ty:TypeId}{pos:String}{after:Array Edge}{l:List Oper}{f:FuncId}{xs:List Operand}{ats:Array TypeId}{v:Value}{H2:dD}(hx:ui t xs=some []) (hc:SC G P f [] H (λu a=>u=v∧a=H2)) (k:O G P N ops l Q (put t dst v) H2) (hd:iJ N dst=true:=by exact rfl):O G P N ops (⟨dst,.call ⟨.value (.func f),xs.toArray,ats⟩,ty,pos,after,none⟩::l) Q t H:=cp_ hx hc k hd
theorem c1_ {G:dJ}{P:Program}{N:Nat}{Q:Post}{t:Tm}{H:dD}{ops:Array Oper}{dst:Option Tmp}{ty:TypeId}{pos:String}{after:Array Edge}{l:List Oper}{f:FuncId}{xs:List Operand}{ats:Array TypeId}{K:Value→dD→Prop}{a0:Value}(hx:ui t xs=some [a0]) (hc:SC G P f [a0] H K) (k:∀v a,K v a→O G P N ops l Q (put t dst v) a) (hd:iJ N dst=true:=by exact rfl):O G P N ops (⟨dst,.call ⟨.value (.func f),xs.toArray,ats⟩,ty,pos,after,none⟩::l) Q t H:=s_ (lU hx hc) k hd
theorem d1_ {G:dJ}{P:Program}{N:Nat}{Q:Post}{t:Tm}{H:dD}{ops:Array Oper}{dst:Option Tmp}{ty:TypeId}{pos:String}{after:Array Edge}{l:List Oper}{f:FuncId}{xs:List Operand}{ats:Array TypeId}{v:Value}{H2:dD}{a0:Value}(hx:ui t xs=some [a0]) (hc:SC G P f [a0] H (λu a=>u=v∧a=H2)) (k:O G P N ops l Q (put t dst v) H2) (hd:iJ N dst=true:=by exact rfl):O G P N ops (⟨dst,.call ⟨.value (.func f),xs.toArray,ats⟩,ty,pos,after,none⟩::l) Q t H:=cp_ hx hc k hd
theorem c2_ {G:dJ}{P:Program}{N:Nat}{Q:Post}{t:Tm}{H:dD}{ops:Array Oper}{dst:Option Tmp}{ty:TypeId}{pos:String}{after:Array Edge}{l:List Oper}{f:FuncId}{xs:List Operand}{ats:Array TypeId}{K:Value→dD→Prop}{a0 a1:Value}(hx:ui t xs=some [a0,a1]) (hc:SC G P f [a0,a1] H K) (k:∀v a,K v a→O G P N ops l Q (put t dst v) a) (hd:iJ N dst=true:=by exact rfl):O G P N ops (⟨dst,.call ⟨.value (.func f),xs.toArray,ats⟩,ty,pos,after,none⟩::l) Q t H:=s_ (lU hx hc) k hd
theorem d2_ {G:dJ}{P:Program}{N:Nat}{Q:Post}{t:Tm}{H:dD}{ops:Array Oper}{dst:Option Tmp}{ty:TypeId}{pos:String}{after:Array Edge}{l:List Oper}{f:FuncId}{xs:List Operand}{ats:Array TypeId}{v:Value}{H2:dD}{a0 a1:Value}(hx:ui t xs=some [a0,a1]) (hc:SC G P f [a0,a1] H (λu a=>u=v∧a=H2)) (k:O G P N ops l Q (put t dst v) H2) (hd:iJ N dst=true:=by exact rfl):O G P N ops (⟨dst,.call ⟨.value (.func f),xs.toArray,ats⟩,ty,pos,after,none⟩::l) Q t H:=cp_ hx hc k hd
theorem c3_ {G:dJ}{P:Program}{N:Nat}{Q:Post}{t:Tm}{H:dD}{ops:Array Oper}{dst:Option Tmp}{ty:TypeId}{pos:String}{after:Array Edge}{l:List Oper}{f:FuncId}{xs:List Operand}{ats:Array TypeId}{K:Value→dD→Prop}{a0 a1 a2:Value}(hx:ui t xs=some [a0,a1,a2]) (hc:SC G P f [a0,a1,a2] H K) (k:∀v a,K v a→O G P N ops l Q (put t dst v) a) (hd:iJ N dst=true:=by exact rfl):O G P N ops (⟨dst,.call ⟨.value (.func f),xs.toArray,ats⟩,ty,pos,after,none⟩::l) Q t H:=s_ (lU hx hc) k hd
theorem d3_ {G:dJ}{P:Program}{N:Nat}{Q:Post}{t:Tm}{H:dD}{ops:Array Oper}{dst:Option Tmp}{ty:TypeId}{pos:String}{after:Array Edge}{l:List Oper}{f:FuncId}{xs:List Operand}{ats:Array TypeId}{v:Value}{H2:dD}{a0 a1 a2:Value}(hx:ui t xs=some [a0,a1,a2]) (hc:SC G P f [a0,a1,a2] H (λu a=>u=v∧a=H2)) (k:O G P N ops l Q (put t dst v) H2) (hd:iJ N dst=true:=by exact rfl):O G P N ops (⟨dst,.call ⟨.value (.func f),xs.toArray,ats⟩,ty,pos,after,none⟩::l) Q t H:=cp_ hx hc k hd
theorem v0_ {G:dJ}{P:Program}{t:Tm}{H:dD}{f:FuncId}{xs:List Operand}{ats:Array TypeId}{dst:Option Tmp}{ty:TypeId}{pos:String}{after:Array Edge}{g:Option (Nat×Bool)}{K:Value→dD→Prop}(hc:SC G P f [] H K) (hx:ui t xs=some []:=by exact rfl):St G P ⟨dst,.call ⟨.value (.func f),xs.toArray,ats⟩,ty,pos,after,g⟩ t H K:=lU hx hc
theorem v1_ {G:dJ}{P:Program}{t:Tm}{H:dD}{f:FuncId}{xs:List Operand}{ats:Array TypeId}{dst:Option Tmp}{ty:TypeId}{pos:String}{after:Array Edge}{g:Option (Nat×Bool)}{K:Value→dD→Prop}{a0:Value}(hc:SC G P f [a0] H K) (hx:ui t xs=some [a0]:=by exact rfl):St G P ⟨dst,.call ⟨.value (.func f),xs.toArray,ats⟩,ty,pos,after,g⟩ t H K:=lU hx hc
theorem v2_ {G:dJ}{P:Program}{t:Tm}{H:dD}{f:FuncId}{xs:List Operand}{ats:Array TypeId}{dst:Option Tmp}{ty:TypeId}{pos:String}{after:Array Edge}{g:Option (Nat×Bool)}{K:Value→dD→Prop}{a0 a1:Value}(hc:SC G P f [a0,a1] H K) (hx:ui t xs=some [a0,a1]:=by exact rfl):St G P ⟨dst,.call ⟨.value (.func f),xs.toArray,ats⟩,ty,pos,after,g⟩ t H K:=lU hx hc
theorem v3_ {G:dJ}{P:Program}{t:Tm}{H:dD}{f:FuncId}{xs:List Operand}{ats:Array TypeId}{dst:Option Tmp}{ty:TypeId}{pos:String}{after:Array Edge}{g:Option (Nat×Bool)}{K:Value→dD→Prop}{a0 a1 a2:Value}(hc:SC G P f [a0,a1,a2] H K) (hx:ui t xs=some [a0,a1,a2]:=by exact rfl):St G P ⟨dst,.call ⟨.value (.func f),xs.toArray,ats⟩,ty,pos,after,g⟩ t H K:=lU hx hc
theorem wD {G:dJ}{P:Program}{N:Nat}{l:List Oper}{Q:Post}{t:Tm}{H:dD}{id:Nat}(L:List Nat) (F:Nat→dD→Prop) (h:An G P N l.toArray (λi=>L.contains i) F Q l.length (Array.replicate l.length false) t H) (hm:P.follows .mixedOrders=true:=by exact dN):W G P N (.region id l.toArray true) Q t H:=Rs hm _ F h
end Go.Sx
namespace Go.Sx
open Go
section
variable {E T:TypeId}{ats:Array TypeId}{e:Array Value→Sem Value}{f:FuncId}{fn:Func}{q:ByteArray}{v:Value}{vs:List Value}{x:Operand}{xs:List Operand}
section
variable {G:dJ}{P:Program}{N:Nat}{Q:Post}{t:Tm}{H:dD}{ops:Array Oper}{dst:Option Tmp}{ty:TypeId}{pos:String}{after:Array Edge}{g:Option (Nat×Bool)}{l:List Oper}
theorem uL {a:Operand}{name:String}{ws:List Value}{K:Value→dD→Prop}(hr:evo t a=some (.iface T v)) (hx:ui t xs=some vs) (hm:∀w,(callMethod (.iface T v) name vs.toArray).run P w=.ok (.enter f ws.toArray) w) (hc:SC G P f ws H K):St G P ⟨dst,.call ⟨.invoke a name,xs.toArray,ats⟩,ty,pos,after,g⟩ t H K:=by
 intro ρ hρ w b;have h1:=hρ _ _ hr;have h2:xs.toArray.map ρ=vs.toArray:=cz;have:(execOp ρ ⟨dst,.call ⟨.invoke a name,xs.toArray,ats⟩,ty,pos,after,g⟩).run P w=.ok (.enter f ws.toArray) w:=by
  simp only[execOp,resolve,h1,h2,Sem.run_bind,Sem.run_pure,Result.andThen_ok,invoke];have e:(#[Value.iface T v]++vs.toArray)[0]? =some (Value.iface T v):=aq;have c:(#[Value.iface T v]++vs.toArray).extract 1 (#[Value.iface T v]++vs.toArray).size=vs.toArray:=aq;simp only[e,c];exact hm w
 rw[this];exact hc.call w b
structure MvE (es:List MapEntry) (clock:Nat) (kv:List (ByteArray×Value)):Prop where
 stamped:MapKept.Stamped es.toArray clock
 keys:es.map (·.key)=kv.map λp=>Value.string p.1
 vals:es.map (·.val)=kv.map (·.2)
def Mv (r:Nat) (kv:List (ByteArray×Value)):Hp:=λL=>∃(es:List MapEntry) (clock:Nat),L= [(r,.map es.toArray clock)]∧MvE es clock kv
theorem pZ (k:ByteArray):∀(kv:List (ByteArray×Value)) (es:List MapEntry) (i:Nat),es.map (·.key)=kv.map (λp=>Value.string p.1)→es.map (·.val)=kv.map (·.2)→
 (∃j v,kv[j]? =some (k,v)∧Instr.findNow .string (.string k) es i=some (some (i+j,v)))∨(k ∉ kv.map (·.1)∧Instr.findNow .string (.string k) es i=some none)
 | [],es,i,h,_=>by
  obtain rfl:es= []:=bA;exact .inr ⟨aq,rfl⟩
 |q::ks, [],i,h,_=>bx
 |q::ks,e::es,i,h,hv=>by
  simp only[Xs,List.cons.injEq]at h hv;obtain⟨h1,h2⟩:=h;obtain⟨h3,h4⟩:=hv;have hn:Instr.findNow .string (.string k) (e::es) i=match Instr.sameNow .string (.string k) (.string q.1)with
   |some true=>some (some (i,e.val))
   |some false=>Instr.findNow .string (.string k) es (i+1)
   |none=>none:=by rw[←h1];rfl
  rw[hn]
  by_cases hk:k=q.1
  ·subst hk;have a:(q.1==q.1)=true:=(MapKept.bytes_beq q.1 q.1).2 rfl;left;simp only[Instr.sameNow,a];exact⟨0,q.2,aq,by rw[h3];rfl⟩
  ·have a:(k==q.1)=false:=by
    cases h:(k==q.1)with
    |false=>rfl
    |true=>exact absurd ((MapKept.bytes_beq k q.1).1 h) hk
   simp only[Instr.sameNow,a];rcases pZ k ks es (i+1) h2 h4 with⟨j,v,h5,h6⟩|⟨h5,h6⟩
   ·exact .inl ⟨j+1,v,by simpa using h5,by rw[h6];simp only[Option.some.injEq,Prod.mk.injEq,and_true];omega⟩
   ·exact .inr ⟨λh=>by
     rcases Xo.1 h with h|h
     ·exact hk h
     ·exact h5 h,h6⟩
theorem HV {K:TypeId}{k:IntKind}{i:Int} [hT:Und P T (.map K E)] (hx:evo t x=some (.int k i)):
 St G P ⟨dst,.makeMap T (some x),ty,pos,after,g⟩ t H (λu b=>∃r,u=.map (some r)∧b=Mv r []::H):=
 fun ρ hρ w hw=>by
  have hr:(execOp ρ ⟨dst,.makeMap T (some x),ty,pos,after,g⟩).run P w=.ok (.value (.map (some w.heap.size))) {w with heap:=w.heap.push (.map #[] 0)}:=by
   simp only[execOp,Vs,Instr.makeMap,hρ _ _ hx,Sem.run_bind,ef (T:=T),Result.andThen_ok,asInt,asIntOf,Sem.run_pure,run_newObj]
  rw[hr];exact⟨_,(hw.alloc _).cons λ_ a=>⟨[],0,a,⟨MapKept.stamped_empty 0,rfl,rfl⟩⟩,w.heap.size,rfl,rfl⟩
theorem x8:
 St G P ⟨dst,.makeMap T none,ty,pos,after,g⟩ t H (λu b=>∃r,u=.map (some r)∧b=Mv r []::H):=
 fun ρ hρ w hw=>by
  have hr:(execOp ρ ⟨dst,.makeMap T none,ty,pos,after,g⟩).run P w=.ok (.value (.map (some w.heap.size))) {w with heap:=w.heap.push (.map #[] 0)}:=by
   simp only[execOp,Option.map_none,Instr.makeMap,Sem.run_bind,Result.andThen_ok,Sem.run_pure,run_newObj]
  rw[hr];exact⟨_,(hw.alloc _).cons λ_ a=>⟨[],0,a,⟨MapKept.stamped_empty 0,rfl,rfl⟩⟩,w.heap.size,rfl,rfl⟩
theorem Gc {K:TypeId}{y:Operand}{r j l:Nat}{z:Value}{ok:Bool}{c:List (ByteArray×Value)}{s:ByteArray}{C:Hp→dD} [hT:Und P T (.map K E)] [d:Und P K .string] [hE:Inf P E j l z] (hx:evo t x=some (.map (some r))) (hy:evo t y=some (.string s)) [hf:Foc H Mv r c C]:
 St G P ⟨dst,.lookup T x y ok,ty,pos,after,g⟩ t H (λu m=>m=H∧((∃(i:Nat) (v:Value),c[i]? =some (s,v)∧u=if ok then .tuple #[v,.bool true]else v)∨(s ∉ c.map (·.1)∧u=if ok then .tuple #[z,.bool false]else z))):=
 fun ρ hρ w hw=>by
  obtain⟨h,L,hL,hl⟩:=hw;obtain⟨L1,M,L2,rfl,⟨e,a,rfl,hk⟩,hB⟩:=hf.foc _ hL;have k:w.heap[r]? =some (.map e.toArray a):=hl.at_ (r,.map e.toArray a) aq;have f:=MapKept.run_getObj_map (P:=P) k;have b:=MapKept.run_checkKey (P:=P) (w:=w) d.out (oM s);rcases pZ s c e 0 hk.keys hk.vals with⟨i,v,h1,h2⟩|⟨h1,h2⟩
  ·have h3:=MapKept.run_findKey (P:=P) (w:=w) d.out h2;have hr:(execOp ρ ⟨dst,.lookup T x y ok,ty,pos,after,g⟩).run P w=.ok (.value (if ok then .tuple #[v,.bool true]else v)) w:=by
    cases ok <;> simp only[execOp,hρ _ _ hx,hρ _ _ hy,Instr.lookup,Sem.run_bind,ef (T:=T),Result.andThen_ok,f,Sem.run_pure,b,h3,↓reduceIte,Xx]
   rw[hr];exact⟨H,⟨h,_,hL,hl⟩,rfl,.inl ⟨i,v,h1,rfl⟩⟩
  ·have h3:=MapKept.run_findKey (P:=P) (w:=w) d.out h2;have hr:(execOp ρ ⟨dst,.lookup T x y ok,ty,pos,after,g⟩).run P w=.ok (.value (if ok then .tuple #[z,.bool false]else z)) w:=by
    cases ok <;> simp only[execOp,hρ _ _ hx,hρ _ _ hy,Instr.lookup,Sem.run_bind,ef (T:=T),Result.andThen_ok,f,Sem.run_pure,b,h3,mb (T:=E),↓reduceIte,Xx]
   rw[hr];exact⟨H,⟨h,_,hL,hl⟩,rfl,.inr ⟨h1,rfl⟩⟩
theorem Wm {S D:TypeId} [d:Und P S .string] [h:Und P D (.slice E)] [f:Und P E (.int .u8)] (hx:evo t x=some (.string q)):
 St G P ⟨dst,.convert S D x,ty,pos,after,g⟩ t H (λu i=>∃s:SV,u=s.val∧i=Row s eB (dC q)::H):=
 fun ρ hρ w hw=>by
  have h1:=run_bytes_of_string (P:=P) w S D E q d.out h.out f.out;have a:q.size≤grownCap w q.size 0 E:=by unfold grownCap;simp only[Question.cut];omega
  have hr:(execOp ρ ⟨dst,.convert S D x,ty,pos,after,g⟩).run P w=.ok (.value (.slice (some ⟨w.heap.size,0,none⟩) q.size (grownCap w q.size 0 E))) (w.drew.alloc (.cells (bytesRow q (grownCap w q.size 0 E)) E ((bytesRow q (grownCap w q.size 0 E)).size,(bytesRow q (grownCap w q.size 0 E)).size+1))):=by
   simp only[execOp,hρ _ _ hx,Sem.run_bind,h1,Result.andThen_ok,Sem.run_pure]
  rw[hr];have hw':Sat G w.drew H:=hw.same rfl ⟨hw.1.os,hw.1.tape,hw.1.output⟩;refine⟨_,(hw'.alloc _).cons (B:=Row ⟨some ⟨w.heap.size,0,none⟩,q.size,grownCap w q.size 0 E⟩ eB (dC q)) λL e=>.inr ⟨w.heap.size,_,_,_,rfl,(dI q).symm,a,e,?_,.inr (Xl _),?_⟩,_,rfl,rfl⟩
  ·have c:q.data.size=q.size:=rfl;simp only[bytesRow,Array.size_append,Array.size_map,Array.size_replicate,show eB.sz=1 from rfl,c];omega
  ·intro j v hv;rw[Fw]at hv;have hj:=(Yk.1 hv).1;simp only[Yh,dI]at hj;have c:j<(q.data.map (λb=>Value.int .u8 b.toNat)).size:=by simpa using hj
   rw[bytesRow,Uu c,←hv];simp[dC];rfl
def eBo:Enc Bool:=⟨λb=>[.bool b],1,false,λ_=>rfl,λ_ v h=>bI,ae,λ_=>rfl,ae⟩
instance {b:Bool}:gP eBo (.bool b) b:=⟨rfl⟩
instance {b:Bool}:kV eBo b (.bool b):=⟨rfl⟩
theorem Es (hf:P.funcs[f]? =some fn) (hn:(fn.name== "runtime.NumGoroutine")=false) (b:fn.body=none) (h1:Extern.findNext fn=none) (h2:Extern.find fn=some e) (a:Array Value) (w:World):
 (callFunc f a).run P w=((e a).run P w).andThen λv w=>.ok (.value v) w:=by
 simp only[callFunc,Sem.run_bind,run_program,Result.andThen_ok,hf,hn,b,h1,h2,Option.isNone_none,↓reduceIte,Xx];rfl
theorem Ss (hf:P.funcs[f]? =some fn) (hn:(fn.name== "runtime.NumGoroutine")=false) (b:fn.body=none) (h1:Extern.findNext fn=none) (h2:Extern.find fn=some e) (hx:ui t xs=some vs) (he:∀w,(e vs.toArray).run P w=.ok v w):St G P ⟨dst,.call ⟨.value (.func f),xs.toArray,ats⟩,ty,pos,after,g⟩ t H (λu c=>u=v∧c=H):=by
 intro ρ hρ w a;have h3:ρ (.func f)=.func (.func f) #[] #[]:=hρ _ _ rfl;have h4:xs.toArray.map ρ=vs.toArray:=cz;have:(execOp ρ ⟨dst,.call ⟨.value (.func f),xs.toArray,ats⟩,ty,pos,after,g⟩).run P w=.ok (.value v) w:=by
  simp only[execOp,resolve,h3,h4,Deferred.ofValue,Sem.run_bind,Sem.run_pure,Result.andThen_ok];simp only[invoke,Array.append_empty,Array.empty_append];rw[Es hf hn b h1 h2,he];rfl
 rw[this];exact⟨H,a,rfl,rfl⟩
def ixR (q:ByteArray) (x:Nat):Int:=match (List.range q.size).find? λi=>q[i]! ==UInt8.ofNat x with
 |some i=>(i:Int)
 |none=>-1
theorem On (q:ByteArray) (x:Nat) (w:World):(Extern.BytealgIndexByte.indexByte #[.string q,.int .u8 (x:Int)]).run P w=.ok (.int .i64 (ixR q x)) w:=by
 have h:Extern.BytealgIndexByte.indexByte #[.string q,.int .u8 (x:Int)]=(match (List.range q.size).find? λi=>q[i]! ==(x:Int).toNat.toUInt8 with
  |some i=>(pure (goInt i):Sem Value)
  |none=>pure (goInt (-1))):=rfl
 rw[h,ixR];have e:(x:Int).toNat.toUInt8=UInt8.ofNat x:=rfl;rw[e];cases(List.range q.size).find? λi=>q[i]! ==UInt8.ofNat x with
 |none=>rfl
 |some i=>rfl
theorem pS {x:Nat}(hx:x<256):0≤ixR q x↔x∈dC q:=by
 unfold ixR;cases h:(List.range q.size).find? λi=>q[i]! ==UInt8.ofNat x with
 |none=>
  rw[List.find?_eq_none]at h;simp only[Int.reduceNeg,Int.reduceLE,false_iff];intro hm;obtain⟨i,hi⟩:=Vh.1 hm;have a:=(Yk.1 hi).1;rw[dI]at a;have h2:=h i (by simpa using a);apply h2;have h3:q[i]! =q[i]:=by simp[a]
  rw[h3,beq_iff_eq];rw[dC,Xd]at hi;have h4:q.data.toList[i]? =some q[i]:=by
   rw[Yi (by simpa using a)];rfl
  rw[h4]at hi;simp only[Vs,Option.some.injEq]at hi;rw[←hi];simp
 |some i=>
  have h1:=List.find?_some h;have h2:=List.mem_of_find?_eq_some h;have a:i<q.size:=cD;have h3:q[i]! =q[i]:=by simp[a]
  rw[h3,beq_iff_eq]at h1
  constructor
  ·intro _;apply Vh.2;refine⟨i,?_⟩;have h4:q.data.toList[i]? =some q[i]:=by
    rw[Yi (by simpa using a)];rfl
   rw[dC,Xd,h4,h1];simp[Xw hx]
  ·intro _;simp only;omega
end
end
section
variable {T:TypeId}{s:SV}
def ko (n:Nat):ByteArray:=⟨Array.replicate n 0⟩
theorem py (n:Nat):(ko n).size=n:=by simp[ko,ByteArray.size]
theorem BH (n:Nat):dC (ko n)=List.replicate n 0:=by simp[dC,ko]
theorem BG (n:Nat):Builtin.zeroCells #[.int .u8 0] n=((ko n).extract 0 n).data.map λb=>Value.int .u8 b.toNat:=by
 have e:(ko n).extract 0 n=ko n:=by
  have:=ByteArray.extract_zero_size (b:=ko n)
  rwa [py]at this
 rw[e];apply Array.ext
 ·simp[Builtin.zeroCells,ko]
 ·intro i h1 h2;simp[Builtin.zeroCells,ko,Nat.mod_one]
variable {P:Program}
theorem w8 {w:World}{T2 T3 E:TypeId}{ty:TypeId}{n e:Nat} [hT:Und P T (.slice E)] [hT2:Und P T2 (.int .i64)] [hT3:Und P T3 .string] [m:Inf P E 1 e (.int .u8 0)] (hn:n*e≤140737488355328) (hn2:n≤140737488355328) (hl:s.n+n≤140737488355328) (h:(s.n+n)*e≤140737488355328):
 (Builtin.append_ #[T,T2] ty #[s.val,.int .i64 (n:Int)]).run P w=(Builtin.append_ #[T,T3] ty #[s.val,.string (ko n)]).run P w:=by
 obtain⟨i,j,hi2,f,hi4⟩:=m.out;have c:∀w:World,(typeInfo E).run P w=.ok i w:=by intro w;simp[typeInfo,j]
 have l:IntKind.wrap .i64 (n:Int)=n:=kH a8;have h0:¬((n:Int)<0):=a8;have h1:¬((n:Int)*(i.bytes:Int) > 2^48):=by
  rw[f];have:(n:Int)*(e:Int)=((n*e:Nat):Int):=aq;rw[this];omega
 have g:¬(((s.n+n:Nat):Int) > IntKind.i64.max):=by
  simp only[IntKind.max,IntKind.signed,IntKind.bits];simp;omega
 simp only[Builtin.append_,SV.val];simp only[Sem.run_bind,Sem.run_pure,Result.andThen_ok,ef (T:=T),ef (T:=T2),ef (T:=T3),fy (T:=E) (s:=1),Uw,Xb,Xc,Xx,↓reduceIte,asInt,asIntOf,l,h0,c,h1,Builtin.lenOf,py,Ve];have d:∀w:World,(if n*1=0 then(pure #[]:Sem (Array Value))else do
  let z ←zeroValue E
  pure (Builtin.zeroCells z.cells n)).run P w=.ok (((ko n).extract 0 n).data.map λb=>Value.int .u8 b.toNat) w:=by
  intro w;rw[←BG]
  by_cases hz:n*1=0
  ·obtain rfl:n=0:=by omega
   rw[if_pos hz,Sem.run_pure];simp[Builtin.zeroCells]
  ·rw[if_neg hz];simp only[Sem.run_bind,mb (T:=E),Result.andThen_ok,Sem.run_pure];rfl
 have a:∀w:World,(Builtin.firstCells 1 n (.string (ko n))).run P w=.ok (((ko n).extract 0 n).data.map λb=>Value.int .u8 b.toNat) w:=λw=>rfl
 by_cases hroom:s.n+n≤s.c
 ·simp only[hroom,↓reduceIte,T6,T7,Xx,Sem.run_bind,d,a]
 ·have k:¬(Builtin.nextslicecap (s.n+n) s.c*i.bytes > 2^48):=by
   have:=growslice_fits (bytes:=e) (need:=s.n+n) (old:=s.c) a8 h;rw[f];omega
  simp only[hroom,g,k,↓reduceIte,T6,T7,Xx,Sem.run_bind,d,a,c,Result.andThen_ok,false_and]
variable {G:dJ}{t:Tm}{H:dD}{dst:Option Tmp}{ty:TypeId}{pos:String}{after:Array Edge}{g:Option (Nat×Bool)}
theorem xa {T2 T3 E:TypeId}{x y:Operand}{j:Int}{n d:Nat}{xs:List Nat}{C:Hp→dD}(hx:evo t x=some s.val) (hy:evo t y=some (.int .i64 j)) (hj:j=(n:Int)) (hlim:(xs.length+n)*d≤140737488355328) (hlim2:xs.length+n≤140737488355328) [hT:Und P T (.slice E)] [hT2:Und P T2 (.int .i64)] (hT3:Und P T3 .string) [hE:Inf P E 1 d (.int .u8 0)] [hf:nM H s eB xs C] [hs:Sl H s eB xs]:
 St G P ⟨dst,.call ⟨.builtin .append, #[x,y], #[T,T2]⟩,ty,pos,after,g⟩ t H (λu i=>∃a:SV,u=a.val∧i=C (Row a eB (xs++List.replicate n 0))):=
 fun ρ hρ w hw=>by
  subst hj;obtain⟨h,_,_⟩:=hs.get hw;have c:(s.n+n)*d≤140737488355328:=by rw[h];exact hlim
  have e:n*d≤140737488355328:=Xi (Vu _ a8) c;obtain⟨a,f,hr,b⟩:=pJ (ty:=ty) (T:=T) (T2:=T3) (d2:=.string) (P:=P) (E:=E) (ys:=dC (ko n)) (.inl rfl) rfl rfl (hf:=hf) hw (u9 (ko n)) rfl rfl (by rw[dI,py];exact hlim) (by rw[dI,py];exact hlim2);rw[←w8 (T2:=T2) e a8 a8 c]at hr;have:(execOp ρ ⟨dst,.call ⟨.builtin .append, #[x,y], #[T,T2]⟩,ty,pos,after,g⟩).run P w=.ok (.value a.val) f:=by
   simp only[execOp,resolve,invoke,builtin,Uy,Xs,Ud,hρ _ _ hx,hρ _ _ hy,Sem.run_bind,Sem.run_pure,Result.andThen_ok,hr]
  rw[this];rw[BH]at b;exact⟨_,b,a,rfl,rfl⟩
theorem Bd {U:TypeId}{x y:Operand}{i j:Int}(hx:evo t x=some (.int .i64 i)) (hy:evo t y=some (.int .i64 j)) (a b:Nat) (ha:i=a) (f:j=b) (d:a<9223372036854775808) (c:b<9223372036854775808):
 Ev G P ⟨dst,.binOp .or T x y U,ty,pos,after,g⟩ t H (.int .i64 ((a |||b:Nat):Int)):=
 fun ρ hρ w _=>by
  have hlt:a |||b<2^63:=U7 (n:=63) d c;have e:(BitVec.ofInt 64 (a:Int) |||BitVec.ofInt 64 (b:Int)).toNat=a |||b:=by
   rw[iL,iL,BitVec.toNat_or,BitVec.toNat_ofNat,BitVec.toNat_ofNat,Xw a8,Xw a8]
  have k:IntKind.wrap .i64 ((a |||b:Nat):Int)=((a |||b:Nat):Int):=kH a8;have h:IntKind.wrap .i64 (((BitVec.ofInt (IntKind.bits .i64) (a:Int) |||BitVec.ofInt (IntKind.bits .i64) (b:Int)).toNat:Nat):Int)=((a |||b:Nat):Int):=by rw[←k];exact congrArg (λn:Nat=>IntKind.wrap .i64 (n:Int)) e
  simp only[execOp,hρ _ _ hx,hρ _ _ hy,eqGuard,binOp,Op.intBits,ha,f];simp only[Sem.run_bind,Sem.run_pure,ne_eq,not_true_eq_false,↓reduceIte];rw[h];rfl
end
end Go.Sx
