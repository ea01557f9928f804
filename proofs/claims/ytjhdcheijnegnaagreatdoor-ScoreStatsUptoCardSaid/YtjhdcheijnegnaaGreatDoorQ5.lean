import Derived.Test.YtjhdcheijnegnaaGreatDoorQ4
set_option linter.all false
set_option maxHeartbeats 0
namespace Go.Sx
open Go
theorem Row.pre {α:Type}{s g:SV}{e:Enc α}{xs ys:List α}{L:mX}(h:Row g e (xs++ys) L) (ha:s.a=g.a) (hc:s.c=g.c) (d:s.n=xs.length):Row s e xs L:=by
 rcases h with⟨rfl,h2,rfl⟩|⟨b,C,E,fz,h1,h2,h3,rfl,i,h6,f⟩
 ·obtain⟨rfl,rfl⟩:=List.append_eq_nil_iff.1 h2;obtain⟨a,n,c⟩:=s;simp only at ha hc d;subst ha;subst hc;subst d;exact .inl ⟨rfl,rfl,rfl⟩
 ·rw[Ya]at h2;refine .inr ⟨b,C,E,fz,ha.trans h1,d,a8,rfl,by rw[hc];exact i,h6,λj v hv=>f j v ?_⟩;rw[e.all_append,Yv (Yk.1 hv).1];exact hv
structure GSt (α:Type) where
 s:SV
 xs:List α
 g:SV
 ys:List α
def Gw {α:Type}(e:Enc α) (x:GSt α):Hp:=λL=>x.s.n=x.xs.length∧((∃zs,x.ys=x.xs++zs)∧Row x.g e x.ys L∧x.s.a=x.g.a∧x.s.c=x.g.c∨Sep [Row x.g e x.ys,Row x.s e x.xs] L)
section
variable {G:cJ}{P:Program}{N:Nat}{Q:Post}{t:Tm}{H:cG}{dst:Option Tmp}{ty:TypeId}{pos:String}{after:Array Edge}{g:Option (Nat×Bool)}{α:Type}{e:Enc α}
theorem NO {s:SV}{xs:List α}{L:mX}(h:Row s e xs L):s.n=xs.length:=by
 rcases h with⟨rfl,rfl,_⟩|⟨b,C,E,fz,h1,h2,_⟩
 ·rfl
 ·exact h2
theorem G0 {s:SV}{xs:List α}:cH [Row s e xs] [Gw e ⟨s,xs,s,xs⟩]:=λL hL=>by
 obtain⟨L1,L2,rfl,h1,h2⟩:=hL;obtain rfl:L2= []:=h2;exact⟨L1++ [], [],⟨L1, [],rfl,⟨NO h1,.inl ⟨⟨[],ak⟩,h1,rfl,rfl⟩⟩,rfl⟩,ak⟩
theorem G1 {x:GSt α}:cH [Gw e x] [Row x.s e x.xs]:=λL hL=>by
 obtain⟨L1,L2,rfl,⟨d,h1⟩,h2⟩:=hL;obtain rfl:L2= []:=h2;rcases h1 with⟨⟨b,c⟩,h1,ha,f⟩|⟨h,M2,rfl,h1,a,g,rfl,h3,h4⟩
 ·exact⟨L1++ [], [],⟨L1, [],rfl,Row.pre (ys:=b) (by rw[←c];exact h1) ha f d,rfl⟩,ak⟩
 ·obtain rfl:g= []:=h4;exact⟨a++ [],h,⟨a, [],rfl,h3,rfl⟩,by simpa using List.perm_append_comm⟩
theorem K9 {x:GSt α}{R:cG}:Sl (Gw e x::R) x.g e x.ys:=
 ⟨λL hL=>by
  obtain⟨L1,L2,rfl,⟨hn,h1⟩,h2⟩:=hL;rcases h1 with⟨_,h1,_,_⟩|⟨M1,M2,rfl,h1,_⟩
  ·exact h1.slL.mono λx hx=>Yy _ hx
  ·exact h1.slL.mono λx hx=>Yy _ (Yy _ hx)⟩
theorem Me {x:GSt α}{R:cG}:Sl (Gw e x::R) x.s e x.xs:=
 Sl.hsub (H':=Row x.s e x.xs::R) (oX (F:= [Gw e x]) (F':= [Row x.s e x.xs]) G1) inferInstance
theorem St.post {o:Oper}{d R2:Value→cG→Prop}(h:St G P o t H d) (hk:∀v c,d v c→∃a,cH c a∧R2 v a):St G P o t H R2:=fun ρ hρ w hw=>by
 have h1:=h ρ hρ w hw;revert h1;generalize (execOp ρ o).run P w=r;intro h1;cases r with
 |ok n w'=>
  cases n <;> simp only[kY]at h1⊢
  case value v=>obtain⟨c,h2,h3⟩:=h1;obtain⟨a,h4,b⟩:=hk _ _ h3;exact⟨a,h4.sat h2,b⟩
  case skip=>obtain⟨c,h2,h3⟩:=h1;obtain⟨a,h4,b⟩:=hk _ _ h3;exact⟨a,h4.sat h2,b⟩
  case enter f args=>
   refine h1.mono λe w'' he=>?_;cases e with
   |returned v=>obtain⟨c,h2,h3⟩:=he;obtain⟨a,h4,b⟩:=hk _ _ h3;exact⟨a,h4.sat h2,b⟩
   |_=>exact he.elim
 |halt x w'=>simp only[kY]at h1
theorem CP {x:GSt α}{R:cG}(c:x.s.n=x.xs.length) (b:∃a,x.ys=x.xs++a) (ha:x.s.a=x.g.a) (hc:x.s.c=x.g.c):cH (Row x.g e x.ys::R) (Gw e x::R):=
 cH.imp (λ_ h=>⟨c,.inl ⟨b,h,ha,hc⟩⟩) cH.refl
theorem tu {x:GSt α}{R:cG}(b:x.s.n=x.xs.length):cH (Row x.g e x.ys::Row x.s e x.xs::R) (Gw e x::R):=λL hL=>by
 obtain⟨L1,L2,rfl,h1,L3,a,rfl,h3,h4⟩:=hL;exact⟨(L1++L3)++a, [],⟨L1++L3,a,rfl,⟨b,.inr ⟨L1,L3,rfl,h1,L3, [],ak,h3,rfl⟩⟩,h4⟩,ak⟩
theorem vS {T T2 E E2:TypeId}{x y:Operand}{s2:SV}{sz bb:Nat}{z:Value}{zs:List α}{u:GSt α}{R:cG} [hr:mW H (Gw e u) R] (hx:evo t x=some u.g.val) (hy:evo t y=some s2.val) [hT:Und P T (.slice E)] [hT2:Und P T2 (.slice E2)] [hE:Inf P E sz bb z] [hs:Sl R s2 e zs]
 (i:sz=e.sz) (d:z.cells.size=sz) (hlim:(u.ys.length+zs.length)*bb≤140737488355328) (hlim2:u.ys.length+zs.length≤140737488355328):
 St G P ⟨dst,.call ⟨.builtin .append, #[x,y], #[T,T2]⟩,ty,pos,after,g⟩ t H (λv c=>∃a:SV,v=a.val∧c=Gw e ⟨u.s,u.xs,a,u.ys++zs⟩::R):=
 fun ρ hρ w hw=>by
  obtain⟨hsm,L,hL,hl⟩:=hw;obtain⟨C,hp,n⟩:=hr.out L hL;have hl':ju w C:=⟨by have:=hl.nodup;exact((hp.map _).nodup_iff).2 this,λx hx=>hl.at_ x (hp.subset hx)⟩;obtain⟨L1,L2,rfl,⟨j,h1⟩,h2⟩:=n;rcases h1 with⟨⟨m,f⟩,h1,ha,p⟩|⟨A,M2,rfl,h1,q,r,rfl,h3,h4⟩
  ·have b:Sat G w (Row u.g e u.ys::R):=⟨hsm,_,⟨L1,L2,rfl,h1,h2⟩,hl'⟩;have h:=sL (G:=G) (P:=P) (dst:=dst) (ty:=ty) (pos:=pos) (after:=after) (g:=g) (H:=Row u.g e u.ys::R) (s:=u.g) (e:=e) (xs:=u.ys) (s2:=s2) (ys:=zs) (T:=T) (T2:=T2) (E:=E) (E2:=E2) (sz:=sz) (bb:=bb) (z:=z) hx hy i d hlim hlim2;refine(h.post (R2:=λv c=>∃a:SV,v=a.val∧c=Gw e ⟨u.s,u.xs,a,u.ys++zs⟩::R) ?_) ρ hρ w b;rintro v c ⟨a,rfl,⟨l,k,rfl⟩|rfl⟩
   ·exact⟨_,CP (x:=⟨u.s,u.xs,a,u.ys++zs⟩) j ⟨m++zs,by show u.ys++zs=u.xs++(m++zs);rw[f,Yf]⟩ (ha.trans l.symm) (p.trans k.symm),a,rfl,rfl⟩
   ·exact⟨_,(cH.keep (cH.imp (B:=Row u.s e u.xs) (λ_ h=>Row.pre (ys:=m) (by rw[←f];exact h) ha p j) cH.refl)).trans (tu (x:=⟨u.s,u.xs,a,u.ys++zs⟩) j),a,rfl,rfl⟩
  ·obtain rfl:r= []:=h4;have b:Sat G w (Row u.g e u.ys::Row u.s e u.xs::R):=⟨hsm,_,⟨A,q++L2,rfl,h1,q,L2,rfl,h3,h2⟩,by simpa using hl'⟩;have h:=sL (G:=G) (P:=P) (dst:=dst) (ty:=ty) (pos:=pos) (after:=after) (g:=g) (H:=Row u.g e u.ys::Row u.s e u.xs::R) (s:=u.g) (e:=e) (xs:=u.ys) (s2:=s2) (ys:=zs) (T:=T) (T2:=T2) (E:=E) (E2:=E2) (sz:=sz) (bb:=bb) (z:=z) hx hy i d hlim hlim2;refine(h.post (R2:=λv c=>∃a:SV,v=a.val∧c=Gw e ⟨u.s,u.xs,a,u.ys++zs⟩::R) ?_) ρ hρ w b;rintro v c ⟨a,rfl,⟨l,k,rfl⟩|rfl⟩
   ·exact⟨_,tu (x:=⟨u.s,u.xs,a,u.ys++zs⟩) j,a,rfl,rfl⟩
   ·exact⟨_,(cH.keep (cH.drop cH.refl)).trans (tu (x:=⟨u.s,u.xs,a,u.ys++zs⟩) j),a,rfl,rfl⟩
end
end Go.Sx
namespace Go.Sx
open Go
section
variable {G:cJ}{P:Program}{N:Nat}{Q:Post}{t:Tm}{H:cG}
end
end Go.Sx
