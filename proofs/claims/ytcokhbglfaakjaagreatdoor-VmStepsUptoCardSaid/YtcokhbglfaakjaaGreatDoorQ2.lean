import Derived.Test.YtcokhbglfaakjaaGreatDoorQ1
import Derived.Test.YtcokhbglfaakjaaGreatDoorProg
import Derived.KernelRfl
import Derived.MapKept
set_option linter.all false
set_option maxHeartbeats 0
namespace Go.Sx
open Go
section
variable {C:Hp→dD}{E T:TypeId}{F H' R:dD}{K:Value→dD→Prop}{α ι:Type}{a y1:α}{args:List Value}{b bb i sz:Nat}{e:Enc α}{f:FuncId}{l:List Oper}{s:SV}{v v1 z:Value}{w:World}{x x1 y:Operand}{xs ys:List α}
class gP {α:Type}(e:Enc α) (v:Value) (x:outParam α):Prop where
 out:e.v x=v
instance {n:Nat}:gP eB (.int .u8 ((n:Nat):Int)) n:=⟨rfl⟩
instance {i:Int}:gP eI (.int .i64 i) i:=⟨rfl⟩
instance {s:ByteArray}:gP eS (.string s) s:=⟨rfl⟩
instance {s:SV}:gP eSV s.val s:=⟨rfl⟩
class kV {α:Type}(e:Enc α) (x:α) (v:outParam Value):Prop where
 out:e.v x=v
instance {n:Nat}:kV eB n (.int .u8 (n:Int)):=⟨rfl⟩
instance {i:Int}:kV eI i (.int .i64 i):=⟨rfl⟩
instance {s:ByteArray}:kV eS s (.string s):=⟨rfl⟩
instance {s:SV}:kV eSV s s.val:=⟨rfl⟩
section
variable {G:dJ}{P:Program}{N:Nat}{Q:Post}{t:Tm}{H:dD}{ops:Array Oper}{dst:Option Tmp}{ty:TypeId}{pos:String}{after:Array Edge}{g:Option (Nat×Bool)}
theorem fk (e:Enc α) [hT:Und P T (.slice E)] [hE:Inf P E sz bb z] (a:sz=e.sz):
 St G P ⟨dst,.buildSlice T 0 #[],ty,pos,after,g⟩ t H (λu H'=>∃s:SV,u=s.val∧H'=Row s e []::H):=by
 subst a;exact ek e [] (by simp only[wc,Enc.parts]) rfl cX
theorem fK (e:Enc α) [hT:Und P T (.slice E)] [hE:Inf P E sz bb z] (a:evo t x1=some v1) [b:gP e v1 y1] (c:sz=e.sz):
 St G P ⟨dst,.buildSlice T 1 #[(0,x1)],ty,pos,after,g⟩ t H (λu H'=>∃s:SV,u=s.val∧H'=Row s e [y1]::H):=by
 subst c;exact ek e [y1] (by simp only[wc,Enc.parts,a,b.out]) rfl cX
theorem HY {i:Value}{x2:Operand}(e:Enc α){a:α} [hT:Und P T (.slice E)] [hE:Inf P E sz bb z] (c:evo t x1=some v1) (b:evo t x2=some i) [f:gP e v1 y1] [d:gP e i a] (h:sz=e.sz):
 St G P ⟨dst,.buildSlice T 2 #[(0,x1),(1,x2)],ty,pos,after,g⟩ t H (λu H'=>∃s:SV,u=s.val∧H'=Row s e [y1,a]::H):=by
 subst h;exact ek e [y1,a] (by simp only[wc,Enc.parts,c,b,f.out,d.out]) rfl cX
theorem zb {v r q:Value}{x2 p n:Operand}(e:Enc α){c b a:α} [hT:Und P T (.slice E)] [hE:Inf P E sz bb z] (h:evo t x1=some v1) (f:evo t x2=some v) (d:evo t p=some r) (hx4:evo t n=some q) [l:gP e v1 y1] [k:gP e v c] [j:gP e r b] [i:gP e q a] (m:sz=e.sz):
 St G P ⟨dst,.buildSlice T 4 #[(0,x1),(1,x2),(2,p),(3,n)],ty,pos,after,g⟩ t H (λu H'=>∃s:SV,u=s.val∧H'=Row s e [y1,c,b,a]::H):=by
 subst m;exact ek e [y1,c,b,a] (by simp only[wc,Enc.parts,h,f,d,hx4,l.out,k.out,j.out,i.out]) rfl cX
theorem gT (hx:evo t x=some (.pointer (s.elt sz i 0))) [hT:One P T] [hs:Sl H s e xs] (a:e.sz=sz) (ha:e.agg=false) (y:α) (hy:xs[i]? =some y) [hv:kV e y v]:
 Ev G P ⟨dst,.load T x,ty,pos,after,g⟩ t H v:=by subst a;exact hv.out ▸ yP hx ha y hy
theorem Da (hx:evo t x=some (.pointer (s.elt sz i 0))) [hT:Agg P T sz] [hs:Sl H s e xs] (a:e.sz=sz) (ha:e.agg=true) (y:α) (hy:xs[i]? =some y) [hv:kV e y v]:
 Ev G P ⟨dst,.load T x,ty,pos,after,g⟩ t H v:=by subst a;exact hv.out ▸ yg hx ha y hy
theorem ta {o:Nat}(hx:evo t x=some (.pointer (s.elt sz i o))) [hT:One P T] [hs:Sl H s e xs] (a:e.sz=sz) (y:α) (hy:xs[i]? =some y) (hc:(e.f y)[o]? =some v):
 Ev G P ⟨dst,.load T x,ty,pos,after,g⟩ t H v:=by subst a;exact w2 hx y hy hc
theorem PQ (hx:evo t x=some s.val) [hT:Und P T (.slice E)] [hs:Sl H s e xs]:
 Ev G P ⟨dst,.call ⟨.builtin .len, #[x], #[T]⟩,ty,pos,after,g⟩ t H (.int .i64 ((xs.length:Nat):Int)):=UC (T:=T) hx rfl
theorem Db {s:ByteArray}(hx:evo t x=some (.string s)) [hT:Und P T .string]:
 Ev G P ⟨dst,.call ⟨.builtin .len, #[x], #[T]⟩,ty,pos,after,g⟩ t H (.int .i64 ((s.size:Nat):Int)):=Fs (T:=T) hx rfl
theorem fV {lo hi:Option Operand}(hx:evo t x=some s.val) [hT:Und P T (.slice E)] [hE:Inf P E sz bb z] [hs:Sl H s e xs] (a:e.sz=sz) (l h:Nat) (b:match lo with|none=>l=0|some o=>∃k j,evo t o=some (.int k j)∧j=(l:Int)) (c:match hi with|none=>h=xs.length|some o=>∃k j,evo t o=some (.int k j)∧j=(h:Int)) (h1:l≤h) (h2:h≤xs.length):
 Ev G P ⟨dst,.slice T x lo hi none,ty,pos,after,g⟩ t H (s.cut sz l h).val:=by subst a;exact D7 hx l h b c h1 h2
theorem H5 {U:TypeId}{a b:Int}(hx:evo t x=some (.int .i64 a)) (hy:evo t y=some (.int .i64 b)) (c:Int) (h:IntKind.i64.wrap (a-b)=c):
 Ev G P ⟨dst,.binOp .sub T x y U,ty,pos,after,g⟩ t H (.int .i64 c):=
 fun ρ hρ w _=>by simp[execOp,hρ _ _ hx,hρ _ _ hy,eqGuard,binOp,Op.intArith,h]
theorem wB {U:TypeId}{a b:Int}(hx:evo t x=some (.int .i64 a)) (hy:evo t y=some (.int .i64 b)) (c:Int) (h:IntKind.i64.wrap (a+b)=c):
 Ev G P ⟨dst,.binOp .add T x y U,ty,pos,after,g⟩ t H (.int .i64 c):=
 fun ρ hρ w _=>by simp[execOp,hρ _ _ hx,hρ _ _ hy,eqGuard,binOp,Op.intArith,h]
theorem dX {a:Nat}(hm:P.follows .mixedOrders=true) (h:An G P N l.toArray tz (at_ H) Q l.length (Array.replicate l.length false) t H):W G P N (.region a l.toArray true) Q t H:=Rs hm tz (at_ H) h
theorem Dc {vs:Array Value}(hx:evo t x=some (.tuple vs)) (hv:vs.toList[i]? =some v):
 Ev G P ⟨dst,.extract x i,ty,pos,after,g⟩ t H v:=Ft hx (by rw[←R5];exact hv)
theorem K6 {T2:TypeId}{s2:SV}{a:Nat}(hx:evo t x=some (s.cut e.sz a b).val) (hy:evo t y=some s2.val) [hT:Und P T (.slice E)] [hE:Inf P E e.sz bb z] [hf:nM H s e xs C] [hs:Sl H s2 e ys] (h1:a≤b) (h2:b≤xs.length) (m:Nat) (hm:m=min ys.length (b-a)):
 St G P ⟨dst,.call ⟨.builtin .copy, #[x,y], #[T,T2]⟩,ty,pos,after,g⟩ t H (λu H'=>u=.int .i64 ((m:Nat):Int)∧H'=C (Row s e (xs.take a++ys.take m++xs.drop (a+m)))):=
 fun ρ hρ w hw=>by
  obtain⟨Z,q2,Y⟩:=hs.get hw;have k:m≤ys.length:=a8;have n:(Builtin.lenOf s2.val).run P w=.ok ys.length w:=by simp[Builtin.lenOf,SV.val,Z]
  have c:(Builtin.firstCells e.sz m s2.val).run P w=.ok (e.all (ys.take m)).toArray w:=by
   rcases Y with⟨rfl,_⟩|⟨p,K,d,l,fz,h4,hb,_,h6⟩
   ·simp at k;subst k;rw[mu];rfl
   ·have:=fT (P:=P) (o:=K) hb (e.all (ys.take m)) (λj v hv=>h6 j v (by
     rw[e.all_take]at hv;have hj:=(Yk.1 hv).1;rw[Yg]at hj
     rwa [Vp a8]at hv))
    rw[e.all_length,Yg,Ug k]at this;simp only[Builtin.firstCells,SV.val,h4,this]
  obtain⟨L1,M,L2,hl,N,R⟩:=hf.split hw;have f:(e.all (ys.take m)).length=m*e.sz:=by rw[e.all_length,Yg,Ug k]
  have B:Nat.min ys.length (b-a)=m:=hm.symm
  by_cases hm0:m=0
  ·subst hm0;have he:xs.take a++ys.take 0++xs.drop (a+0)=xs:=aq;rw[he];have hr:(execOp ρ ⟨dst,.call ⟨.builtin .copy, #[x,y], #[T,T2]⟩,ty,pos,after,g⟩).run P w=.ok (.value (.int .i64 ((0:Nat):Int))) w:=by
    simp only[execOp,resolve,invoke,builtin,Uy,Xs,Ud,hρ _ _ hx,hρ _ _ hy,Sem.run_bind,Sem.run_pure,Result.andThen_ok,Builtin.copy_,Uw,Xb,Xc,ef (T:=T),SV.val,SV.cut];have hlen':=n;have hfirst':=c;simp only[SV.val]at hlen' hfirst';simp only[hlen',Result.andThen_ok,B,fy (T:=E) (s:=e.sz),hfirst'];cases h:(if s.c=a then s.a else Option.map (λx=>x.add (a*e.sz)) s.a) <;> simp[Enc.all_nil,storeCells,goInt]
   rw[hr];exact⟨C (Row s e xs),⟨hw.1,_,R _ M N,hl⟩,rfl,rfl⟩
  ·rcases N with⟨rfl,rfl,rfl⟩|⟨p,d,l,fz,X,g2,g3,rfl,V,U,S⟩
   ·simp at h2;omega
   ·have J:w.heap[p]? =some (.cells d l fz):=hl.at_ (p,.cells d l fz) aq;have L:¬(s.c=a):=a8;have F:a*e.sz+(e.all (ys.take m)).length≤d.size:=by
     rw[f,V,←Vy];exact Vu _ a8
    have A:=iy (P:=P) (o:=a*e.sz) (e.all (ys.take m)) 0 d w J (λj _ h=>U.free j a8) a8 (e.all_one _);have hr:(execOp ρ ⟨dst,.call ⟨.builtin .copy, #[x,y], #[T,T2]⟩,ty,pos,after,g⟩).run P w=.ok (.value (.int .i64 ((m:Nat):Int))) (fW w p (.cells (gL d (a*e.sz) (e.all (ys.take m))) l fz)):=by
     simp only[execOp,resolve,invoke,builtin,Uy,Xs,Ud,hρ _ _ hx,hρ _ _ hy,Sem.run_bind,Sem.run_pure,Result.andThen_ok,Builtin.copy_,Uw,Xb,Xc,ef (T:=T),SV.val,SV.cut];have hlen':=n;have hfirst':=c;simp only[SV.val]at hlen' hfirst';simp only[hlen',Result.andThen_ok,B,fy (T:=E) (s:=e.sz),hfirst',L,↓reduceIte,X,Vs,jT,Vw,Sem.run_bind];simp only[X6]at A;rw[A];rfl
    rw[hr];refine⟨C (Row s e (xs.take a++ys.take m++xs.drop (a+m))),⟨⟨hw.1.os,hw.1.tape,hw.1.output⟩,_,R _ [(p,.cells (gL d (a*e.sz) (e.all (ys.take m))) l fz)] (.inr ⟨p,_,l,fz,X,?_,g3,rfl,by rw[iA,V],by rw[iA];exact U,?_⟩),?_⟩,rfl,rfl⟩
    ·simp;omega
    ·intro j u q;rw[jc _ _ _ _ F,f];rw[e.all_append,e.all_append]at q;have r:(e.all (xs.take a)).length=a*e.sz:=cf
     by_cases hj:j<a*e.sz
     ·rw[if_neg a8];rw[Yf,Yv a8,e.all_take,Vp hj]at q;exact S j u q
     ·by_cases hj2:j<a*e.sz+m*e.sz
      ·rw[if_pos a8];rw[Yf,Yu a8,r,Yv a8]at q;exact q
      ·rw[if_neg a8];rw[Yu (by rw[Ya,r,f];omega),Ya,r,f,e.all_drop,Xh,Vy]at q;exact S j u (by rw[←q];congr 1;omega)
    ·have:=lB.change (w':=fW w p (.cells (gL d (a*e.sz) (e.all (ys.take m))) l fz)) (L1:=L1) (L2:=L2) (b:=p) (o:=.cells d l fz) (o':=.cells (gL d (a*e.sz) (e.all (ys.take m))) l fz) bQ (iY J) (λi hi _=>gY hi)
     simpa using this
theorem Gd {T2:TypeId}{s2:SV}{a:Nat}(hx:evo t x=some (s.cut sz a b).val) (hy:evo t y=some s2.val) [hT:Und P T (.slice E)] [hE:Inf P E sz bb z] [hf:nM H s e xs C] [hs:Sl H s2 e ys] (c:e.sz=sz) (h1:a≤b) (h2:b≤xs.length) (m:Nat) (hm:m=min ys.length (b-a)):
 St G P ⟨dst,.call ⟨.builtin .copy, #[x,y], #[T,T2]⟩,ty,pos,after,g⟩ t H (λu H'=>u=.int .i64 ((m:Nat):Int)∧H'=C (Row s e (xs.take a++ys.take m++xs.drop (a+m)))):=by subst c;exact K6 hx hy h1 h2 m hm
theorem K7 {xs:List Nat} [hT:Und P T (.slice E)] [hE:Und P E (.int .u8)] (hx:evo t x=some s.val) [hf:nM H s eB xs C] (k:xs≠ []):
 St G P ⟨dst,.convert T T x,ty,pos,after,g⟩ t H (λu H'=>u=s.val∧H'=C (Row s eB xs)):=
 fun ρ hρ w hw=>by
  obtain⟨L1,M,L2,hl,q,r⟩:=hf.split hw;rcases q with⟨rfl,rfl,rfl⟩|⟨b,c,d,fz,p,B,A,rfl,z,y,v⟩
  ·exact absurd rfl k
  ·have e:w.heap[b]? =some (.cells c d fz):=hl.at_ (b,.cells c d fz) aq;obtain⟨a,m,j⟩:∃a,(if fz.1==fz.2 then(c.size,c.size+1)else(min fz.1 c.size,max fz.2 (c.size+1)))=a∧Okf c.size a:=by
    refine⟨_,rfl,?_⟩
    by_cases h:fz.1=fz.2
    ·rw[if_pos (by simp[h])];exact .inr (Xl _)
    ·rw[if_neg (by simp[h])];rcases y with h6|h6
     ·exact absurd h6 h
     ·exact .inr (by simp only[];omega)
   have n:w.freeze ⟨b,c.size,none⟩ 1=fW w b (.cells c d a):=by
    unfold World.freeze fW;rw[if_neg ae];congr 1;apply Q5;intro i;simp only[T5,X8];have l:=(Vc.1 e).1
    by_cases hi:b=i
    ·subst hi;rw[if_pos rfl,if_pos rfl,if_pos l,e,Vs];rw[←m]
    ·rw[if_neg hi,if_neg hi]
   have f:w.shape? b=some (d,c.size):=by unfold World.shape?;rw[e]
   have hr:(execOp ρ ⟨dst,.convert T T x,ty,pos,after,g⟩).run P w=.ok (.value s.val) (fW w b (.cells c d a)):=by
    simp only[execOp,convert,hρ _ _ hx,Sem.run_bind,ef (T:=T),ef (T:=E),Result.andThen_ok,SV.val,p,BEq.rfl,markStringish,run_shape,f,run_freeze,n,Sem.run_pure]
   rw[hr];refine⟨C (Row s eB xs),⟨⟨hw.1.os,hw.1.tape,hw.1.output⟩,_,r _ [(b,.cells c d a)] (.inr ⟨b,c,d,a,p,B,A,rfl,z,j,v⟩),?_⟩,rfl,rfl⟩;have:=lB.change (w':=fW w b (.cells c d a)) (L1:=L1) (L2:=L2) (b:=b) (o:=.cells c d fz) (o':=.cells c d a) bQ (iY e) (λi hi _=>gY hi)
   simpa using this
theorem SC.out (h:SC G P f args H (λv H'=>∃a,dH H' a∧K v a)):SC G P f args H K:=
 ⟨h.enter,λw b=>(h.call w b).mono λe w' he=>by
  cases e with
  |returned v=>obtain⟨H',h1,a,h2,h3⟩:=he;exact⟨a,h2.sat h1,h3⟩
  |_=>exact he.elim⟩
class Rem (H:dD) {ι α:Type}(K:ι→α→Hp) (i:ι) (a:outParam α) (R:outParam dD):Prop where
 out:∀L,Sep H L→∃L',L'.Perm L∧Sep (K i a::R) L'
instance Rem.head {H:dD}{ι α:Type}{K:ι→α→Hp}{i:ι}{a:α}:Rem (K i a::H) K i a H:=⟨λL h=>⟨L,.refl L,h⟩⟩
instance Rem.tail {A:Hp}{H R:dD}{ι α:Type}{K:ι→α→Hp}{i:ι}{a:α} [h:Rem H K i a R]:Rem (A::H) K i a (A::R):=
 ⟨λL hL=>by
  obtain⟨L1,L2,rfl,h1,h2⟩:=hL
  obtain⟨L',hp,M1,M2,rfl,h3,h4⟩:=h.out L2 h2
  refine⟨M1++(L1++M2),?_,M1,L1++M2,rfl,h3,L1,M2,rfl,h1,h4⟩
  rw[←Yf]
  refine((List.perm_append_comm.append_right M2).trans ?_)
  rw[Yf]
  exact hp.append_left L1⟩
theorem Rem.sat {K:ι→α→Hp}{i:ι}(h:Rem H K i a R) (b:Sat G w H):Sat G w (K i a::R):=
 b.imp λL hL=>let ⟨L',h1,h2⟩:=h.out L hL;⟨L',h2,.inr h1⟩
theorem SC.rem {K':ι→α→Hp}{i:ι} [h:Rem H K' i a R] (hc:SC G P f args (K' i a::R) K):SC G P f args H K:=
 hc.heap λ_ b=>h.sat b
def eU (F:dD):Hp:=λL=>Sep F L
theorem SC.ex {A:α→Hp}(h:∀x,SC G P f args (A x::H) K):(∃_:α,True)→SC G P f args ((λL=>∃x,A x L)::H) K:=λhx=>
 ⟨(h hx.choose).enter,λw a=>by
   obtain⟨b,L,⟨L1,L2,rfl,⟨x,h1⟩,h2⟩,hl⟩:=a;exact(h x).call w ⟨b,_,⟨L1,L2,rfl,h1,h2⟩,hl⟩⟩
theorem SC.star (h:SC G P f args (F++H) K):SC G P f args (eU F::H) K:=
 h.heap λw c=>by
  obtain⟨a,L,⟨L1,L2,rfl,h1,h2⟩,hl⟩:=c;refine⟨a,_,?_,hl⟩;clear hl a h;revert h1;generalize hF:F=F';clear hF
  induction F' generalizing L1 with
  |nil=>intro h1;obtain rfl:L1= []:=h1;exact h2
  |cons A F ih=>
   intro h1;obtain⟨d,b,rfl,h3,h4⟩:=h1;exact⟨d,b++L2,aq,h3,ih b h4⟩
theorem pH:∀{L:pw},Sep (F++H) L→∃L1 L2,L=L1++L2∧Sep F L1∧Sep H L2:=by
 induction F with
 |nil=>intro L hL;exact⟨[],L,rfl,rfl,hL⟩
 |cons A F ih=>
  intro L hL;obtain⟨b,M2,rfl,h1,h2⟩:=hL;obtain⟨a,c,rfl,h3,h4⟩:=ih h2;exact⟨b++a,c,aq,⟨b,a,rfl,h1,h3⟩,h4⟩
theorem dH.star (h:dH H H'):dH (F++H) (eU F::H'):=λL hL=>by
 obtain⟨L1,L2,rfl,h1,h2⟩:=pH hL;obtain⟨a,M,h3,h4⟩:=h L2 h2;exact⟨L1++a,M,⟨L1,a,rfl,h1,h3⟩,by rw[Yf];exact h4.append_left L1⟩
class mh (H:dD) (s:SV) {α:outParam Type}(e:outParam (Enc α)) (xs:outParam (List α)) (R:outParam dD):Prop where
 out:∀L,Sep H L→∃L',L'.Perm L∧Sep (Row s e xs::R) L'
instance mh.head {H:dD}{s:SV}{α:Type}{e:Enc α}{xs:List α}:mh (Row s e xs::H) s e xs H:=⟨λL h=>⟨L,.refl L,h⟩⟩
instance mh.tail {A:Hp}{H R:dD}{s:SV}{α:Type}{e:Enc α}{xs:List α} [h:mh H s e xs R]:mh (A::H) s e xs (A::R):=
 ⟨λL hL=>by
  obtain⟨L1,L2,rfl,h1,h2⟩:=hL
  obtain⟨L',hp,M1,M2,rfl,h3,h4⟩:=h.out L2 h2
  refine⟨M1++(L1++M2),?_,M1,L1++M2,rfl,h3,L1,M2,rfl,h1,h4⟩
  rw[←Yf]
  refine((List.perm_append_comm.append_right M2).trans ?_)
  rw[Yf]
  exact hp.append_left L1⟩
theorem dH.rem {K:ι→α→Hp}{i:ι}(hr:Rem H K i a R) (h:dH (K i a::R) H'):dH H H':=λL hL=>by
 obtain⟨c,h1,h2⟩:=hr.out L hL;obtain⟨b,M,h3,h4⟩:=h c h2;exact⟨b,M,h3,h4.trans h1⟩
theorem gi (hr:mh H s e xs R) (h:dH (Row s e xs::R) H'):dH H H':=λL hL=>by
 obtain⟨b,h1,h2⟩:=hr.out L hL;obtain⟨a,M,h3,h4⟩:=h b h2;exact⟨a,M,h3,h4.trans h1⟩
theorem Qt {l:List Value} [hr:Rem H Vr b l R] (h:dH R H'):dH H (Vr b l::H'):=dH.rem hr h.keep
theorem dH.row [hr:mh H s e xs R] (h:dH R H'):dH H (Row s e xs::H'):=gi hr h.keep
theorem dH.nilRow (h:dH H H'):dH H (Row SV.nil e []::H'):=dH.add (.inl ⟨rfl,rfl,rfl⟩) h
def Wr (b:Nat) (xs:List Nat):Hp:=λL=>∃s:SV,Sep [Vr b [s.val],Row s eB xs] L
theorem Qs {xs:List Nat} [hr:Rem H Wr b xs R] (h:dH R H'):dH H (Wr b xs::H'):=dH.rem hr h.keep
theorem Ng {c:dD}{xs:List Nat} [hr:Rem H Vr b [s.val] R] [a:mh R s eB xs c] (h:dH c H'):dH H (Wr b xs::H'):=by
 refine dH.rem hr (dH.trans (H':=Vr b [s.val]::Row s eB xs::c) ?_ ?_)
 ·exact dH.keep (gi a dH.refl)
 ·intro L hL;obtain⟨L1,L2,rfl,h1,L3,e,rfl,h3,h4⟩:=hL;obtain⟨d,M,h5,h6⟩:=h e h4;exact⟨(L1++L3)++d,M,⟨L1++L3,d,rfl,⟨s,L1,L3,rfl,h1,L3, [],aq,h3,rfl⟩,h5⟩,bS⟩
theorem Nf [hr:Rem H Vr b [.slice none 0 0] R] (h:dH R H'):dH H (Wr b []::H'):=by
 refine dH.rem hr λL hL=>?_;obtain⟨L1,L2,rfl,h1,h2⟩:=hL;obtain⟨a,M,h5,h6⟩:=h L2 h2;exact⟨L1++a,M,⟨L1,a,rfl,⟨SV.nil,L1, [],aq,h1, [], [],rfl,.inl ⟨rfl,rfl,rfl⟩,rfl⟩,h5⟩,by rw[Yf];exact h6.append_left L1⟩
theorem xi {xs:List Nat}(hr:Rem H Wr b xs R) (h:∀s:SV,SC G P f args (Vr b [s.val]::Row s eB xs::R) K):SC G P f args H K:=
 SC.heap (H':=Wr b xs::R) ⟨(h SV.nil).enter,λw a=>by
  obtain⟨d,L,⟨L1,L2,rfl,⟨s,g,M2,rfl,h1,c,e,rfl,h2,h3⟩,h4⟩,hl⟩:=a;obtain rfl:e= []:=h3;exact(h s).call w ⟨d,_,⟨g,c++L2,aq,h1,c,L2,rfl,h2,h4⟩,hl⟩⟩ λ_ a=>hr.sat a
def XR (ops:Array Oper) (loud:Nat→Bool) (listed:Array Bool) (i:Nat):Bool:=
 (List.range ops.size).all λj=>!(loud j&&listed.getD j false) ||match ops[j]? with
   |some oj=>oj.after.all λe=>!(Region.binds .any e&&e.on==i)
   |none=>true
theorem iS {loud:Nat→Bool}{a:Array Bool}(h:XR ops loud a i=false):¬vD ops loud i a:=by
 intro hl;rw[←Bool.not_eq_true]at h;refine h (X5.2 λj _=>?_);cases hlj:loud j with
 |false=>rfl
 |true=>
  cases hli:a.getD j false with
  |false=>rfl
  |true=>
   cases hj:ops[j]? with
   |none=>rfl
   |some oj=>
    simp only[Bool.and_self,T6,Q8];refine Array.all_eq_true'.2 λe he=>?_;cases hb:Region.binds .any e with
    |false=>rfl
    |true=>have:=hl j oj hj hlj hli e he hb;simp[this]
theorem Sy {xs:List Nat}(hr:Rem H Wr b xs R) (c:Sat G w H):∃s:SV,Sat G w (Vr b [s.val]::Row s eB xs::R):=by
 obtain⟨d,L,⟨L1,L2,rfl,⟨s,f,M2,rfl,h1,a,e,rfl,h2,h3⟩,h4⟩,hl⟩:=hr.sat c;obtain rfl:e= []:=h3;exact⟨s,d,_,⟨f,a++L2,aq,h1,a,L2,rfl,h2,h4⟩,hl⟩
theorem KY (b:Nat){xs:List Nat} [hr:Rem H Wr b xs R] (h:∀s:SV,O G P N ops l Q t (Vr b [s.val]::Row s eB xs::R)):O G P N ops l Q t H:=
 ⟨λa w ha c=>let ⟨s,hs⟩:=Sy hr c;(h s).go a w ha hs⟩
theorem wO {c:Code}(hs:dH H H') (h:W G P N c Q t H'):W G P N c Q t H:=⟨λa w ha b=>h.go a w ha (hs.sat b)⟩
theorem eu (hs:dH H H') (h:O G P N ops l Q t H'):O G P N ops l Q t H:=⟨λa w ha b=>h.go a w ha (hs.sat b)⟩
end
end
def gix:Nat→Nat:=λi=>[11,8,1,2,3,4,5,6,7,9,10,12,13,14,15,17,18,19,20,21,16,0,22,23].getD i 0
def rZ (i:Nat):Bool:=decide (i<24)&&!([]:List Nat).contains i
theorem y8 {i:Nat}(h:rZ i=true):i<24:=by
 unfold rZ at h;simp only[Xu,Xq]at h;exact h.1
class kx (i:Nat):Prop where
 out:rZ i=true
instance:kx 0:=⟨ae⟩
instance:kx 1:=⟨ae⟩
instance:kx 2:=⟨ae⟩
instance:kx 3:=⟨ae⟩
instance:kx 4:=⟨ae⟩
instance:kx 5:=⟨ae⟩
instance:kx 6:=⟨ae⟩
instance:kx 7:=⟨ae⟩
instance:kx 8:=⟨ae⟩
instance:kx 9:=⟨ae⟩
instance:kx 10:=⟨ae⟩
instance:kx 11:=⟨ae⟩
instance:kx 12:=⟨ae⟩
instance:kx 13:=⟨ae⟩
instance:kx 14:=⟨ae⟩
instance:kx 15:=⟨ae⟩
instance:kx 16:=⟨ae⟩
instance:kx 17:=⟨ae⟩
instance:kx 18:=⟨ae⟩
instance:kx 19:=⟨ae⟩
instance:kx 20:=⟨ae⟩
instance:kx 21:=⟨ae⟩
instance:kx 22:=⟨ae⟩
instance:kx 23:=⟨ae⟩
section
variable {R:dD}{b k:Nat}{w:World}{xs:List Nat}
section
variable {G:dJ}{P:Program}{N:Nat}{Q:Post}{t:Tm}{H:dD}{ops:Array Oper}
def Ex {β:Type}(F:β→dD):Hp:=λL=>∃s,Sep (F s) L
theorem tI:∀{F:dD}{R:dD}{L1 L2:pw},Sep F L1→Sep R L2→Sep (F++R) (L1++L2):=by
 intro F
 induction F with
 |nil=>intro R L1 L2 h1 h2;obtain rfl:L1= []:=h1;exact h2
 |cons A F ih=>
  intro R L1 L2 h1 h2;obtain⟨b,a,rfl,h3,h4⟩:=h1;rw[Yf];exact⟨b,a++L2,rfl,h3,ih h4 h2⟩
theorem pI {ι α β:Type}{K:ι→α→Hp}{i:ι}{a:α}{F:β→dD}(d:K i a=Ex F) (hr:Rem H K i a R) (b:Sat G w H):∃s,Sat G w (F s++R):=by
 obtain⟨c,L,⟨L1,L2,rfl,h1,h2⟩,hl⟩:=hr.sat b;rw[d]at h1;obtain⟨s,h1⟩:=h1;exact⟨s,c,_,tI h1 h2,hl⟩
theorem wx {ι α β:Type}{K:ι→α→Hp}{i:ι}{a:α}{F:β→dD}(b:K i a=Ex F) (s:β):dH (F s++R) (K i a::R):=λL hL=>by
 obtain⟨L1,L2,rfl,h1,h2⟩:=pH hL;exact⟨L1++L2, [],⟨L1,L2,rfl,by rw[b];exact⟨s,h1⟩,h2⟩,aq⟩
def Rd (b:Nat) (p:List Nat×Nat):Hp:=Ex λs:SV=>[Vr b [.int .i64 ((p.2:Nat):Int),.int .i64 ((p.1.length:Nat):Int),s.val],Row s eB p.1]
theorem Kj (hr:Rem H Rd b (xs,k) R) (a:Sat G w H):∃s:SV,Sat G w (Vr b [.int .i64 ((k:Nat):Int),.int .i64 ((xs.length:Nat):Int),s.val]::Row s eB xs::R):=
 pI (K:=Rd) rfl hr a
theorem pO {l:List Oper}(b:Nat) [hr:Rem H Rd b (xs,k) R] (h:∀s:SV,O G P N ops l Q t (Vr b [.int .i64 ((k:Nat):Int),.int .i64 ((xs.length:Nat):Int),s.val]::Row s eB xs::R)):O G P N ops l Q t H:=
 ⟨λa w ha c=>let ⟨s,hs⟩:=Kj hr c;(h s).go a w ha hs⟩
theorem Cn {f:FuncId}{args:List Value}{K:Value→dD→Prop}(hr:Rem H Rd b (xs,k) R) (h:∀s:SV,SC G P f args (Vr b [.int .i64 ((k:Nat):Int),.int .i64 ((xs.length:Nat):Int),s.val]::Row s eB xs::R) K):SC G P f args H K:=
 ⟨(h SV.nil).enter,λw a=>let ⟨s,hs⟩:=Kj hr a;(h s).call w hs⟩
theorem dH.rd {H':dD}{p:List Nat×Nat} [hr:Rem H Rd b p R] (h:dH R H'):dH H (Rd b p::H'):=dH.rem hr h.keep
theorem dH.rd' {d H':dD}{s:SV}{n:Int} [hr:Rem H Vr b [.int .i64 ((k:Nat):Int),.int .i64 n,s.val] R] [c:mh R s eB xs d] (hn:n=((xs.length:Nat):Int)) (h:dH d H'):dH H (Rd b (xs,k)::H'):=by
 subst hn;refine dH.rem hr (dH.trans (H':=Vr b [.int .i64 ((k:Nat):Int),.int .i64 ((xs.length:Nat):Int),s.val]::Row s eB xs::d) ?_ ?_)
 ·exact dH.keep (gi c dH.refl)
 ·exact(wx (K:=Rd) (i:=b) (a:=(xs,k)) rfl s).trans h.keep
class Glb (G:outParam dJ) (H:dD):Prop where
 err:∀i,rZ i=true→∀L,Sep H L→∃E fz,(gix i,Obj.cells #[G.err i] E fz)∈L
 blk:∀i,rZ i=true→∀L,Sep H L→∃C E,(G.eb i,Obj.cells C E (0,0))∈L
 inj:∀a b,G.eb a=G.eb b→G.eo a=G.eo b→a=b
instance Glb.tail {A:Hp} [h:Glb G H]:Glb G (A::H):=
 ⟨λi hi L hL=>by obtain⟨L1,L2,rfl,_,h2⟩:=hL;obtain⟨E,fz,hm⟩:=h.err i hi L2 h2;exact⟨E,fz,Yx _ hm⟩,
  λi hi L hL=>by obtain⟨L1,L2,rfl,_,h2⟩:=hL;obtain⟨C,E,hm⟩:=h.blk i hi L2 h2;exact⟨C,E,Yx _ hm⟩,h.inj⟩
theorem fC (i:Nat) [h:kx i] [a:Glb G H]:dQ H (gix i) [G.err i]:=⟨a.err i h.out⟩
instance {i:Nat} [h:kx i] [hg:Glb G H]:E4 H (G.eb i):=⟨hg.blk i h.out⟩
end
class Tab (H:dD) (b:Nat) (l:outParam (List Nat)):Prop where
 out:∀L,Sep H L→∃E fz,(b,Obj.cells (l.map λn=>Value.int .u32 ((n:Nat):Int)).toArray E fz)∈L
instance Tab.tail {A:Hp}{H:dD}{b:Nat}{l:List Nat} [h:Tab H b l]:Tab (A::H) b l:=
 ⟨λL hL=>cx⟩
instance {H:dD}{b:Nat}{l:List Nat} [h:Tab H b l]:dQ H b (l.map λn=>Value.int .u32 ((n:Nat):Int)):=⟨h.out⟩
instance:gP eB (.int .u8 0) 0:=⟨rfl⟩
instance:gP eB (.int .u8 1) 1:=⟨rfl⟩
instance:gP eB (.int .u8 4) 4:=⟨rfl⟩
instance:gP eB (.int .u8 99) 99:=⟨rfl⟩
instance:gP eB (.int .u8 100) 100:=⟨rfl⟩
instance:gP eB (.int .u8 110) 110:=⟨rfl⟩
instance:gP eB (.int .u8 118) 118:=⟨rfl⟩
end
open Go.Proofs Tryz
section
variable {P:Program}{T:TypeId}{b s:Nat}{fs:Array Field}{z:Value}
theorem dY (h:(P.info? T).map (λi=>(i.size,i.bytes,i.zero))=some (s,b,some z)):Inf P T s b z:=by
 cases hi:P.info? T with
 |none=>rw[hi]at h;cases h
 |some i=>rw[hi]at h;simp only[Vs,Option.some.injEq,Prod.mk.injEq]at h;exact⟨⟨i,hi,h.1,h.2.1,h.2.2⟩⟩
theorem gC {d:TypeDesc}(hm:(match d with| .struct _| .array _ _=>true|_=>false)=true) (hd:P.underlying T=some d) (h:Inf P T s b z):Agg P T s:=by
 obtain⟨i,h1,h2,_⟩:=h.out;exact⟨⟨d,i,hd,hm,h1,h2⟩⟩
theorem dR {ty:TypeId}{k off:Nat}(hd:P.underlying T=some (.struct fs)) (hf:(fs[k]?).map (λf=>(f.offset,f.type))=some (off,ty)) (h:Inf P ty s b z) (hs:s≠0):Fld P T k off:=by
 obtain⟨i,h1,h2,_⟩:=h.out;cases hk:fs[k]? with
 |none=>rw[hk]at hf;cases hf
 |some f=>
  rw[hk]at hf;simp only[Vs,Option.some.injEq,Prod.mk.injEq]at hf;exact⟨⟨fs,f,i,hd,hk,hf.1,by rw[hf.2];exact h1,by rw[h2];exact hs⟩⟩
theorem fg {a:List (Nat×Nat)}{zs:List Value}(hd:P.underlying T=some (.struct fs)) (h:Inf P T s b z) (hp:∀w,(fs.mapM fun(f:Field)=>(do pure (f.offset,←sizeOf f.type):Sem (Nat×Nat))).run P w=.ok a.toArray w) (c:z.cells=zs.toArray):Str P T a zs:=by
 obtain⟨i,h1,_,_,h4⟩:=h.out;exact⟨⟨fs,i,z,hd,hp,h1,h4,c⟩⟩
theorem dN:prog.follows .mixedOrders=true:=aa
instance {G:dJ}{H:dD} [Glb G H]:dQ H 11 [G.err 0]:=fC 0
instance {G:dJ}{H:dD} [Glb G H]:dQ H 8 [G.err 1]:=fC 1
instance {G:dJ}{H:dD} [Glb G H]:dQ H 1 [G.err 2]:=fC 2
instance {G:dJ}{H:dD} [Glb G H]:dQ H 2 [G.err 3]:=fC 3
instance {G:dJ}{H:dD} [Glb G H]:dQ H 3 [G.err 4]:=fC 4
instance {G:dJ}{H:dD} [Glb G H]:dQ H 4 [G.err 5]:=fC 5
instance {G:dJ}{H:dD} [Glb G H]:dQ H 5 [G.err 6]:=fC 6
instance {G:dJ}{H:dD} [Glb G H]:dQ H 6 [G.err 7]:=fC 7
instance {G:dJ}{H:dD} [Glb G H]:dQ H 7 [G.err 8]:=fC 8
instance {G:dJ}{H:dD} [Glb G H]:dQ H 9 [G.err 9]:=fC 9
instance {G:dJ}{H:dD} [Glb G H]:dQ H 10 [G.err 10]:=fC 10
instance {G:dJ}{H:dD} [Glb G H]:dQ H 12 [G.err 11]:=fC 11
instance {G:dJ}{H:dD} [Glb G H]:dQ H 13 [G.err 12]:=fC 12
instance {G:dJ}{H:dD} [Glb G H]:dQ H 14 [G.err 13]:=fC 13
instance {G:dJ}{H:dD} [Glb G H]:dQ H 15 [G.err 14]:=fC 14
instance {G:dJ}{H:dD} [Glb G H]:dQ H 17 [G.err 15]:=fC 15
instance {G:dJ}{H:dD} [Glb G H]:dQ H 18 [G.err 16]:=fC 16
instance {G:dJ}{H:dD} [Glb G H]:dQ H 19 [G.err 17]:=fC 17
instance {G:dJ}{H:dD} [Glb G H]:dQ H 20 [G.err 18]:=fC 18
instance {G:dJ}{H:dD} [Glb G H]:dQ H 21 [G.err 19]:=fC 19
instance {G:dJ}{H:dD} [Glb G H]:dQ H 16 [G.err 20]:=fC 20
instance {G:dJ}{H:dD} [Glb G H]:dQ H 0 [G.err 21]:=fC 21
instance {G:dJ}{H:dD} [Glb G H]:dQ H 22 [G.err 22]:=fC 22
instance {G:dJ}{H:dD} [Glb G H]:dQ H 23 [G.err 23]:=fC 23
instance:Und prog 2 (.int .i64):=⟨underlying2⟩
instance:Und prog 3 (.int .i64):=⟨underlying3⟩
instance:One prog 3:=⟨⟨_,underlying3,rfl⟩⟩
instance iF:Inf prog 3 1 8 (.int .i64 0):=dY (aa)
instance:Und prog 4 .bool:=⟨underlying4⟩
instance:One prog 4:=⟨⟨_,underlying4,rfl⟩⟩
instance yO:Inf prog 4 1 1 (.bool false):=dY (aa)
instance:Und prog 5 (.int .u8):=⟨underlying5⟩
instance:One prog 5:=⟨⟨_,underlying5,rfl⟩⟩
instance XZ:Inf prog 5 1 1 (.int .u8 0):=dY (aa)
instance:Und prog 9 .string:=⟨underlying9⟩
instance:One prog 9:=⟨⟨_,underlying9,rfl⟩⟩
instance xV:Inf prog 9 1 16 (.string ByteArray.empty):=dY (aa)
instance:Und prog 22 (.slice 136):=⟨underlying22⟩
instance:One prog 22:=⟨⟨_,underlying22,rfl⟩⟩
instance Rk:Inf prog 22 1 24 (.slice none 0 0):=dY (aa)
instance xY:Inf prog 24 1 24 (.agg #[(.slice none 0 0)]):=dY (aa)
instance:Agg prog 24 1:=gC rfl underlying24 xY
instance:Und prog 25 (.slice 40):=⟨underlying25⟩
instance:One prog 25:=⟨⟨_,underlying25,rfl⟩⟩
theorem Y3:Inf prog 25 1 24 (.slice none 0 0):=dY aa
theorem Rj:Inf prog 27 2 48 (.agg #[(.slice none 0 0),(.slice none 0 0)]):=dY aa
instance:Agg prog 27 2:=gC rfl underlying27 Rj
instance:Und prog 28 (.slice 3):=⟨underlying28⟩
instance:One prog 28:=⟨⟨_,underlying28,rfl⟩⟩
instance xX:Inf prog 28 1 24 (.slice none 0 0):=dY (aa)
instance:Und prog 29 (.slice 74):=⟨underlying29⟩
instance:One prog 29:=⟨⟨_,underlying29,rfl⟩⟩
instance Ri:Inf prog 29 1 24 (.slice none 0 0):=dY (aa)
instance:Und prog 30 (.slice 162):=⟨underlying30⟩
instance:One prog 30:=⟨⟨_,underlying30,rfl⟩⟩
instance Rh:Inf prog 30 1 24 (.slice none 0 0):=dY (aa)
instance:Und prog 31 (.slice 5):=⟨underlying31⟩
instance:One prog 31:=⟨⟨_,underlying31,rfl⟩⟩
instance xW:Inf prog 31 1 24 (.slice none 0 0):=dY (aa)
instance zA:Inf prog 33 6 128 (.agg #[(.slice none 0 0),(.slice none 0 0),(.slice none 0 0),(.bool false),(.slice none 0 0),(.slice none 0 0)]):=dY (aa)
instance:Agg prog 33 6:=gC rfl underlying33 zA
theorem Y2:Inf prog 35 9 184 (.agg #[(.slice none 0 0),(.slice none 0 0),(.int .i64 0),(.slice none 0 0),(.slice none 0 0),(.slice none 0 0),(.bool false),(.slice none 0 0),(.slice none 0 0)]):=dY aa
instance:Agg prog 35 9:=gC rfl underlying35 Y2
instance:Und prog 37 (.pointer 97):=⟨underlying37⟩
instance:One prog 37:=⟨⟨_,underlying37,rfl⟩⟩
theorem Y1:Inf prog 37 1 8 (.pointer none):=dY aa
instance:Und prog 38 (.slice 124):=⟨underlying38⟩
instance:One prog 38:=⟨⟨_,underlying38,rfl⟩⟩
theorem CZ:Inf prog 38 1 24 (.slice none 0 0):=dY aa
instance LL:Inf prog 40 2 48 (.agg #[(.slice none 0 0),(.slice none 0 0)]):=dY (aa)
instance:Agg prog 40 2:=gC rfl underlying40 LL
instance:Und prog 43 (.slice 68):=⟨underlying43⟩
instance:One prog 43:=⟨⟨_,underlying43,rfl⟩⟩
instance Rf:Inf prog 43 1 24 (.slice none 0 0):=dY (aa)
instance LK:Inf prog 45 4 48 (.agg #[(.slice none 0 0),(.int .i64 0),(.int .i64 0),(.int .i64 0)]):=dY (aa)
instance:Agg prog 45 4:=gC rfl underlying45 LK
instance:Und prog 47 (.interface #[("Error",440)]):=⟨underlying47⟩
instance:One prog 47:=⟨⟨_,underlying47,rfl⟩⟩
instance Y0:Inf prog 47 1 16 .nilIface:=dY (aa)
instance:Und prog 52 (.slice 4):=⟨underlying52⟩
instance:One prog 52:=⟨⟨_,underlying52,rfl⟩⟩
theorem Re:Inf prog 52 1 24 (.slice none 0 0):=dY aa
instance LJ:Inf prog 54 3 72 (.agg #[(.slice none 0 0),(.slice none 0 0),(.slice none 0 0)]):=dY (aa)
instance:Agg prog 54 3:=gC rfl underlying54 LJ
instance:Und prog 59 (.pointer 105):=⟨underlying59⟩
instance:Und prog 62 (.pointer 84):=⟨underlying62⟩
instance:Und prog 66 (.int .u64):=⟨underlying66⟩
instance:One prog 66:=⟨⟨_,underlying66,rfl⟩⟩
instance CY:Inf prog 66 1 8 (.int .u64 0):=dY (aa)
instance LI:Inf prog 68 2 16 (.agg #[(.int .i64 0),(.int .u64 0)]):=dY (aa)
instance:Agg prog 68 2:=gC rfl underlying68 LI
instance LH:Inf prog 74 2 24 (.agg #[(.int .i64 0),(.string ByteArray.empty)]):=dY (aa)
instance:Agg prog 74 2:=gC rfl underlying74 LH
instance:Und prog 76 (.int .u64):=⟨underlying76⟩
instance:Und prog 80 (.slice 164):=⟨underlying80⟩
instance:One prog 80:=⟨⟨_,underlying80,rfl⟩⟩
instance LG:Inf prog 80 1 24 (.slice none 0 0):=dY (aa)
instance:Und prog 81 (.slice 28):=⟨underlying81⟩
instance:One prog 81:=⟨⟨_,underlying81,rfl⟩⟩
instance GP:Inf prog 81 1 24 (.slice none 0 0):=dY (aa)
instance:Und prog 82 (.slice 119):=⟨underlying82⟩
instance:One prog 82:=⟨⟨_,underlying82,rfl⟩⟩
instance Rc:Inf prog 82 1 24 (.slice none 0 0):=dY (aa)
theorem XY:Inf prog 84 15 280 (.agg #[(.slice none 0 0),(.slice none 0 0),(.slice none 0 0),(.bool false),(.slice none 0 0),(.slice none 0 0),(.slice none 0 0),(.slice none 0 0),(.slice none 0 0),(.slice none 0 0),(.slice none 0 0),(.int .i64 0),(.bool false),(.int .i64 0),(.int .i64 0)]):=dY aa
instance LF:Inf prog 90 2 16 (.agg #[(.int .i64 0),(.int .i64 0)]):=dY (aa)
instance:Agg prog 90 2:=gC rfl underlying90 LF
instance:Und prog 94 (.pointer 160):=⟨underlying94⟩
instance:One prog 94:=⟨⟨_,underlying94,rfl⟩⟩
theorem XX:Inf prog 94 1 8 (.pointer none):=dY aa
instance:Und prog 95 (.pointer 241):=⟨underlying95⟩
instance:One prog 95:=⟨⟨_,underlying95,rfl⟩⟩
theorem XW:Inf prog 95 1 8 (.pointer none):=dY aa
theorem XV:Inf prog 97 2 16 (.agg #[(.pointer none),(.pointer none)]):=dY aa
instance:One prog 99:=⟨⟨_,underlying99,rfl⟩⟩
instance XU:Inf prog 99 1 8 .nilFunc:=dY (aa)
instance:Und prog 100 (.array 17 99):=⟨underlying100⟩
instance Ff:Inf prog 100 17 136 (.agg #[.nilFunc,.nilFunc,.nilFunc,.nilFunc,.nilFunc,.nilFunc,.nilFunc,.nilFunc,.nilFunc,.nilFunc,.nilFunc,.nilFunc,.nilFunc,.nilFunc,.nilFunc,.nilFunc,.nilFunc]):=dY (aa)
instance:Agg prog 100 17:=gC rfl underlying100 Ff
instance:Und prog 102 (.slice 108):=⟨underlying102⟩
instance:One prog 102:=⟨⟨_,underlying102,rfl⟩⟩
instance LV:Inf prog 102 1 24 (.slice none 0 0):=dY (aa)
instance:Und prog 103 (.slice 128):=⟨underlying103⟩
instance:One prog 103:=⟨⟨_,underlying103,rfl⟩⟩
instance LU:Inf prog 103 1 24 (.slice none 0 0):=dY (aa)
theorem TP:Inf prog 105 31 376 (.agg #[(.slice none 0 0),(.slice none 0 0),(.slice none 0 0),(.bool false),(.slice none 0 0),(.slice none 0 0),(.slice none 0 0),(.pointer none),(.slice none 0 0),.nilFunc,.nilFunc,.nilFunc,.nilFunc,.nilFunc,.nilFunc,.nilFunc,.nilFunc,.nilFunc,.nilFunc,.nilFunc,.nilFunc,.nilFunc,.nilFunc,.nilFunc,.nilFunc,.nilFunc,(.slice none 0 0),(.int .i64 0),(.int .i64 0),(.int .i64 0),(.int .i64 0)]):=dY aa
instance:One prog 108:=⟨⟨_,underlying108,rfl⟩⟩
instance TO:Inf prog 108 1 8 (.pointer none):=dY (aa)
instance:Und prog 114 (.slice 201):=⟨underlying114⟩
instance:Und prog 116 (.slice 54):=⟨underlying116⟩
instance:Und prog 117 (.slice 203):=⟨underlying117⟩
instance:One prog 117:=⟨⟨_,underlying117,rfl⟩⟩
instance AZ:Inf prog 117 1 24 (.slice none 0 0):=dY (aa)
instance Fe:Inf prog 119 4 48 (.agg #[(.slice none 0 0),(.int .i64 0),(.int .i64 0),(.bool false)]):=dY (aa)
instance:Agg prog 119 4:=gC rfl underlying119 Fe
instance:Und prog 122 (.slice 205):=⟨underlying122⟩
instance:One prog 122:=⟨⟨_,underlying122,rfl⟩⟩
instance LS:Inf prog 122 1 24 (.slice none 0 0):=dY (aa)
instance Fc:Inf prog 124 2 32 (.agg #[(.int .i64 0),(.slice none 0 0)]):=dY (aa)
instance:Agg prog 124 2:=gC rfl underlying124 Fc
instance:Und prog 125 (.slice 196):=⟨underlying125⟩
instance Fb:Inf prog 128 2 16 (.agg #[(.bool false),(.int .u64 0)]):=dY (aa)
instance:Agg prog 128 2:=gC rfl underlying128 Fb
instance Fa:Inf prog 133 2 16 (.agg #[(.bool false),(.int .u64 0)]):=dY (aa)
instance:Agg prog 133 2:=gC rfl underlying133 Fa
instance F9:Inf prog 136 5 32 (.agg #[(.string ByteArray.empty),(.int .i64 0),(.bool false),(.bool false),(.bool false)]):=dY (aa)
instance:Agg prog 136 5:=gC rfl underlying136 F9
theorem LR:Inf prog 151 2 16 (.agg #[(.int .i64 0),(.int .i64 0)]):=dY aa
instance:Und prog 152 (.pointer 318):=⟨underlying152⟩
instance:One prog 152:=⟨⟨_,underlying152,rfl⟩⟩
theorem TN:Inf prog 152 1 8 (.pointer none):=dY aa
theorem TM:Inf prog 154 7 72 (.agg #[(.int .i64 0),(.int .i64 0),(.pointer none),(.int .i64 0),(.int .i64 0),(.slice none 0 0),(.bool false)]):=dY aa
instance:One prog 158:=⟨⟨_,underlying158,rfl⟩⟩
instance LQ:Inf prog 158 1 8 (.pointer none):=dY (aa)
theorem TL:Inf prog 160 6 128 (.agg #[(.slice none 0 0),(.slice none 0 0),(.slice none 0 0),(.pointer none),(.slice none 0 0),(.slice none 0 0)]):=dY aa
instance F8:Inf prog 162 3 56 (.agg #[(.slice none 0 0),(.slice none 0 0),(.int .i64 0)]):=dY (aa)
instance:Agg prog 162 3:=gC rfl underlying162 F8
instance F7:Inf prog 164 3 24 (.agg #[(.int .i64 0),(.int .u64 0),(.int .u64 0)]):=dY (aa)
instance:Agg prog 164 3:=gC rfl underlying164 F7
theorem LP:Inf prog 173 2 16 (.agg #[(.int .i64 0),(.int .i64 0)]):=dY aa
theorem TK:Inf prog 175 3 40 (.agg #[(.int .i64 0),(.int .i64 0),(.slice none 0 0)]):=dY aa
instance:One prog 178:=⟨⟨_,underlying178,rfl⟩⟩
instance TJ:Inf prog 178 1 8 (.pointer none):=dY (aa)
instance:Und prog 179 (.slice 178):=⟨underlying179⟩
instance F6:Inf prog 186 5 48 (.agg #[(.string ByteArray.empty),(.int .i64 0),(.int .i64 0),(.int .i64 0),(.int .i64 0)]):=dY (aa)
instance:Agg prog 186 5:=gC rfl underlying186 F6
instance:Und prog 193 (.slice 198):=⟨underlying193⟩
instance F5:Inf prog 196 5 48 (.agg #[(.string ByteArray.empty),(.int .i64 0),(.int .i64 0),(.int .i64 0),(.int .i64 0)]):=dY (aa)
instance:Agg prog 196 5:=gC rfl underlying196 F5
instance F4:Inf prog 198 4 40 (.agg #[(.int .i64 0),(.string ByteArray.empty),(.int .i64 0),(.int .i64 0)]):=dY (aa)
instance:Agg prog 198 4:=gC rfl underlying198 F4
instance F3:Inf prog 201 3 48 (.agg #[(.int .i64 0),(.string ByteArray.empty),(.slice none 0 0)]):=dY (aa)
instance:Agg prog 201 3:=gC rfl underlying201 F3
instance EZ:Inf prog 203 2 32 (.agg #[(.int .i64 0),(.slice none 0 0)]):=dY (aa)
instance:Agg prog 203 2:=gC rfl underlying203 EZ
instance EY:Inf prog 205 2 32 (.agg #[(.string ByteArray.empty),(.string ByteArray.empty)]):=dY (aa)
instance:Agg prog 205 2:=gC rfl underlying205 EY
instance:Und prog 212 (.slice 133):=⟨underlying212⟩
instance:Und prog 225 (.slice 231):=⟨underlying225⟩
instance EX:Inf prog 231 2 32 (.agg #[(.int .u8 0),(.slice none 0 0)]):=dY (aa)
instance:Agg prog 231 2:=gC rfl underlying231 EX
instance:Und prog 235 (.map 9 117):=⟨underlying235⟩
instance:One prog 235:=⟨⟨_,underlying235,rfl⟩⟩
theorem TI:Inf prog 235 1 8 (.map none):=dY aa
theorem TH:Inf prog 237 4 80 (.agg #[(.slice none 0 0),(.slice none 0 0),(.slice none 0 0),(.map none)]):=dY aa
instance:Und prog 239 (.slice 66):=⟨underlying239⟩
instance:One prog 239:=⟨⟨_,underlying239,rfl⟩⟩
theorem TG:Inf prog 239 1 24 (.slice none 0 0):=dY aa
theorem TF:Inf prog 241 3 40 (.agg #[(.int .i64 0),(.int .i64 0),(.slice none 0 0)]):=dY aa
instance TE:Inf prog 257 2 24 (.agg #[(.string ByteArray.empty),(.int .i64 0)]):=dY (aa)
instance:Und prog 258 (.array 17 257):=⟨underlying258⟩
instance:Und prog 261 (.slice 186):=⟨underlying261⟩
instance:One prog 261:=⟨⟨_,underlying261,rfl⟩⟩
theorem TD:Inf prog 261 1 24 (.slice none 0 0):=dY aa
theorem TC:Inf prog 263 1 24 (.agg #[(.slice none 0 0)]):=dY aa
instance:Und prog 268 (.slice 271):=⟨underlying268⟩
instance LO:Inf prog 271 2 24 (.agg #[(.string ByteArray.empty),(.int .i64 0)]):=dY (aa)
instance:Und prog 284 (.map 9 3):=⟨underlying284⟩
instance:Und prog 295 (.slice 31):=⟨underlying295⟩
instance:Und prog 297 (.int .u32):=⟨underlying297⟩
instance:One prog 297:=⟨⟨_,underlying297,rfl⟩⟩
instance TB:Inf prog 297 1 4 (.int .u32 0):=dY (aa)
instance:Und prog 316 (.slice 320):=⟨underlying316⟩
instance:One prog 316:=⟨⟨_,underlying316,rfl⟩⟩
instance LN:Inf prog 316 1 24 (.slice none 0 0):=dY (aa)
theorem TA:Inf prog 318 4 64 (.agg #[(.slice none 0 0),(.int .i64 0),(.int .i64 0),(.slice none 0 0)]):=dY aa
instance EW:Inf prog 320 4 32 (.agg #[(.int .i64 0),(.int .i64 0),(.int .i64 0),(.int .i64 0)]):=dY (aa)
instance:Agg prog 320 4:=gC rfl underlying320 EW
instance:Und prog 334 (.slice 9):=⟨underlying334⟩
instance:One prog 334:=⟨⟨_,underlying334,rfl⟩⟩
theorem Tz:Inf prog 334 1 24 (.slice none 0 0):=dY aa
theorem Ty:Inf prog 340 1 24 (.agg #[(.slice none 0 0)]):=dY aa
instance:Und prog 346 (.array 16 297):=⟨underlying346⟩
instance:Und prog 362 (.slice 394):=⟨underlying362⟩
instance:Und prog 368 (.array 4 3):=⟨underlying368⟩
instance LM:Inf prog 368 4 32 (.agg #[(.int .i64 0),(.int .i64 0),(.int .i64 0),(.int .i64 0)]):=dY (aa)
instance:Agg prog 368 4:=gC rfl underlying368 LM
instance:One prog 374:=⟨⟨_,underlying374,rfl⟩⟩
instance Tx:Inf prog 374 1 8 (.pointer none):=dY (aa)
instance:Und prog 375 (.slice 374):=⟨underlying375⟩
instance EV:Inf prog 383 2 32 (.agg #[(.string ByteArray.empty),(.string ByteArray.empty)]):=dY (aa)
instance:Agg prog 383 2:=gC rfl underlying383 EV
instance:Und prog 386 (.slice 383):=⟨underlying386⟩
theorem Tw:Inf prog 389 0 0 (.agg #[]):=dY aa
theorem Tv:Inf prog 391 1 24 (.agg #[(.slice none 0 0)]):=dY aa
theorem Tu:Inf prog 392 0 0 (.agg #[]):=dY aa
instance:One prog 394:=⟨⟨_,underlying394,rfl⟩⟩
instance Tt:Inf prog 394 1 16 .nilIface:=dY (aa)
instance:Und prog 396 (.array 8 5):=⟨underlying396⟩
instance Ts:Inf prog 396 8 8 (.agg #[(.int .u8 0),(.int .u8 0),(.int .u8 0),(.int .u8 0),(.int .u8 0),(.int .u8 0),(.int .u8 0),(.int .u8 0)]):=dY (aa)
instance Tr:Inf prog 462 1 16 (.agg #[(.string ByteArray.empty)]):=dY (aa)
instance:Fld prog 24 0 0:=dR underlying24 rfl Rk (ae)
instance:Str prog 24 [(0,1)] [(.slice none 0 0)]:=fg underlying24 xY (λ_=>aa) rfl
instance:Fld prog 27 0 0:=dR underlying27 rfl xY (ae)
instance:Fld prog 27 1 1:=dR underlying27 rfl Y3 (ae)
instance:Fld prog 33 0 0:=dR underlying33 rfl xX (ae)
instance:Fld prog 33 1 1:=dR underlying33 rfl Ri (ae)
instance:Fld prog 33 2 2:=dR underlying33 rfl Rh (ae)
instance:Fld prog 33 3 3:=dR underlying33 rfl yO (ae)
instance:Fld prog 33 4 4:=dR underlying33 rfl xX (ae)
instance:Fld prog 33 5 5:=dR underlying33 rfl xW (ae)
instance:Str prog 33 [(0,1),(1,1),(2,1),(3,1),(4,1),(5,1)] [(.slice none 0 0),(.slice none 0 0),(.slice none 0 0),(.bool false),(.slice none 0 0),(.slice none 0 0)]:=fg underlying33 zA (λ_=>aa) rfl
instance:Fld prog 35 0 0:=dR underlying35 rfl Rj (ae)
instance:Fld prog 35 1 2:=dR underlying35 rfl iF (ae)
instance:Fld prog 35 2 3:=dR underlying35 rfl zA (ae)
instance:Fld prog 40 0 0:=dR underlying40 rfl CZ (ae)
instance:Fld prog 40 1 1:=dR underlying40 rfl xX (ae)
instance:Str prog 40 [(0,1),(1,1)] [(.slice none 0 0),(.slice none 0 0)]:=fg underlying40 LL (λ_=>aa) rfl
instance:Fld prog 45 0 0:=dR underlying45 rfl Rf (ae)
instance:Fld prog 45 1 1:=dR underlying45 rfl iF (ae)
instance:Fld prog 45 2 2:=dR underlying45 rfl iF (ae)
instance:Fld prog 45 3 3:=dR underlying45 rfl iF (ae)
instance:Str prog 45 [(0,1),(1,1),(2,1),(3,1)] [(.slice none 0 0),(.int .i64 0),(.int .i64 0),(.int .i64 0)]:=fg underlying45 LK (λ_=>aa) rfl
instance:Fld prog 54 0 0:=dR underlying54 rfl xY (ae)
instance:Fld prog 54 1 1:=dR underlying54 rfl CZ (ae)
instance:Fld prog 54 2 2:=dR underlying54 rfl Re (ae)
instance:Str prog 54 [(0,1),(1,1),(2,1)] [(.slice none 0 0),(.slice none 0 0),(.slice none 0 0)]:=fg underlying54 LJ (λ_=>aa) rfl
instance:Str prog 68 [(0,1),(1,1)] [(.int .i64 0),(.int .u64 0)]:=fg underlying68 LI (λ_=>aa) rfl
instance:Fld prog 74 0 0:=dR underlying74 rfl iF (ae)
instance:Fld prog 74 1 1:=dR underlying74 rfl xV (ae)
instance:Str prog 74 [(0,1),(1,1)] [(.int .i64 0),(.string ByteArray.empty)]:=fg underlying74 LH (λ_=>aa) rfl
instance:Fld prog 84 0 0:=dR underlying84 rfl zA (ae)
instance:Fld prog 84 1 6:=dR underlying84 rfl LG (ae)
instance:Fld prog 84 2 7:=dR underlying84 rfl CZ (ae)
instance:Fld prog 84 3 8:=dR underlying84 rfl Re (ae)
instance:Fld prog 84 4 9:=dR underlying84 rfl GP (ae)
instance:Fld prog 84 5 10:=dR underlying84 rfl Rc (ae)
instance:Fld prog 84 6 11:=dR underlying84 rfl iF (ae)
instance:Fld prog 84 7 12:=dR underlying84 rfl yO (ae)
instance:Fld prog 84 8 13:=dR underlying84 rfl iF (ae)
instance:Fld prog 84 9 14:=dR underlying84 rfl iF (ae)
instance:Str prog 84 [(0,6),(6,1),(7,1),(8,1),(9,1),(10,1),(11,1),(12,1),(13,1),(14,1)] [(.slice none 0 0),(.slice none 0 0),(.slice none 0 0),(.bool false),(.slice none 0 0),(.slice none 0 0),(.slice none 0 0),(.slice none 0 0),(.slice none 0 0),(.slice none 0 0),(.slice none 0 0),(.int .i64 0),(.bool false),(.int .i64 0),(.int .i64 0)]:=fg underlying84 XY (λ_=>aa) rfl
instance:Str prog 90 [(0,1),(1,1)] [(.int .i64 0),(.int .i64 0)]:=fg underlying90 LF (λ_=>aa) rfl
instance:Fld prog 97 0 0:=dR underlying97 rfl XX (ae)
instance:Fld prog 97 1 1:=dR underlying97 rfl XW (ae)
instance:Str prog 97 [(0,1),(1,1)] [(.pointer none),(.pointer none)]:=fg underlying97 XV (λ_=>aa) rfl
instance:Fld prog 105 0 0:=dR underlying105 rfl zA (ae)
instance:Fld prog 105 1 6:=dR underlying105 rfl LG (ae)
instance:Fld prog 105 2 7:=dR underlying105 rfl Y1 (ae)
instance:Fld prog 105 3 8:=dR underlying105 rfl LV (ae)
instance:Fld prog 105 4 9:=dR underlying105 rfl Ff (ae)
instance:Fld prog 105 5 26:=dR underlying105 rfl LU (ae)
instance:Fld prog 105 6 27:=dR underlying105 rfl iF (ae)
instance:Fld prog 105 7 28:=dR underlying105 rfl iF (ae)
instance:Fld prog 105 8 29:=dR underlying105 rfl iF (ae)
instance:Fld prog 105 9 30:=dR underlying105 rfl iF (ae)
instance:Str prog 105 [(0,6),(6,1),(7,1),(8,1),(9,17),(26,1),(27,1),(28,1),(29,1),(30,1)] [(.slice none 0 0),(.slice none 0 0),(.slice none 0 0),(.bool false),(.slice none 0 0),(.slice none 0 0),(.slice none 0 0),(.pointer none),(.slice none 0 0),.nilFunc,.nilFunc,.nilFunc,.nilFunc,.nilFunc,.nilFunc,.nilFunc,.nilFunc,.nilFunc,.nilFunc,.nilFunc,.nilFunc,.nilFunc,.nilFunc,.nilFunc,.nilFunc,.nilFunc,(.slice none 0 0),(.int .i64 0),(.int .i64 0),(.int .i64 0),(.int .i64 0)]:=fg underlying105 TP (λ_=>aa) rfl
instance:Fld prog 119 0 0:=dR underlying119 rfl AZ (ae)
instance:Fld prog 119 1 1:=dR underlying119 rfl iF (ae)
instance:Fld prog 119 2 2:=dR underlying119 rfl iF (ae)
instance:Fld prog 119 3 3:=dR underlying119 rfl yO (ae)
instance:Str prog 119 [(0,1),(1,1),(2,1),(3,1)] [(.slice none 0 0),(.int .i64 0),(.int .i64 0),(.bool false)]:=fg underlying119 Fe (λ_=>aa) rfl
instance:Fld prog 124 0 0:=dR underlying124 rfl iF (ae)
instance:Fld prog 124 1 1:=dR underlying124 rfl LS (ae)
instance:Str prog 124 [(0,1),(1,1)] [(.int .i64 0),(.slice none 0 0)]:=fg underlying124 Fc (λ_=>aa) rfl
instance:Fld prog 128 0 0:=dR underlying128 rfl yO (ae)
instance:Fld prog 128 1 1:=dR underlying128 rfl CY (ae)
instance:Str prog 128 [(0,1),(1,1)] [(.bool false),(.int .u64 0)]:=fg underlying128 Fb (λ_=>aa) rfl
instance:Fld prog 133 0 0:=dR underlying133 rfl yO (ae)
instance:Fld prog 133 1 1:=dR underlying133 rfl CY (ae)
instance:Str prog 133 [(0,1),(1,1)] [(.bool false),(.int .u64 0)]:=fg underlying133 Fa (λ_=>aa) rfl
instance:Fld prog 136 0 0:=dR underlying136 rfl xV (ae)
instance:Fld prog 136 1 1:=dR underlying136 rfl iF (ae)
instance:Fld prog 136 2 2:=dR underlying136 rfl yO (ae)
instance:Fld prog 136 3 3:=dR underlying136 rfl yO (ae)
instance:Fld prog 136 4 4:=dR underlying136 rfl yO (ae)
instance:Str prog 136 [(0,1),(1,1),(2,1),(3,1),(4,1)] [(.string ByteArray.empty),(.int .i64 0),(.bool false),(.bool false),(.bool false)]:=fg underlying136 F9 (λ_=>aa) rfl
instance:Fld prog 151 0 0:=dR underlying151 rfl iF (ae)
instance:Fld prog 151 1 1:=dR underlying151 rfl iF (ae)
instance:Str prog 151 [(0,1),(1,1)] [(.int .i64 0),(.int .i64 0)]:=fg underlying151 LR (λ_=>aa) rfl
instance:Fld prog 154 0 0:=dR underlying154 rfl LR (ae)
instance:Fld prog 154 1 2:=dR underlying154 rfl TN (ae)
instance:Fld prog 154 2 3:=dR underlying154 rfl iF (ae)
instance:Fld prog 154 3 4:=dR underlying154 rfl iF (ae)
instance:Fld prog 154 4 5:=dR underlying154 rfl AZ (ae)
instance:Fld prog 154 5 6:=dR underlying154 rfl yO (ae)
instance:Str prog 154 [(0,2),(2,1),(3,1),(4,1),(5,1),(6,1)] [(.int .i64 0),(.int .i64 0),(.pointer none),(.int .i64 0),(.int .i64 0),(.slice none 0 0),(.bool false)]:=fg underlying154 TM (λ_=>aa) rfl
instance:Fld prog 160 0 0:=dR underlying160 rfl xY (ae)
instance:Fld prog 160 1 1:=dR underlying160 rfl CZ (ae)
instance:Fld prog 160 2 2:=dR underlying160 rfl GP (ae)
instance:Fld prog 160 3 3:=dR underlying160 rfl LQ (ae)
instance:Fld prog 160 4 4:=dR underlying160 rfl xW (ae)
instance:Str prog 160 [(0,1),(1,1),(2,1),(3,1),(4,1),(5,1)] [(.slice none 0 0),(.slice none 0 0),(.slice none 0 0),(.pointer none),(.slice none 0 0),(.slice none 0 0)]:=fg underlying160 TL (λ_=>aa) rfl
instance:Fld prog 162 0 0:=dR underlying162 rfl xX (ae)
instance:Fld prog 162 1 1:=dR underlying162 rfl xX (ae)
instance:Fld prog 162 2 2:=dR underlying162 rfl iF (ae)
instance:Str prog 162 [(0,1),(1,1),(2,1)] [(.slice none 0 0),(.slice none 0 0),(.int .i64 0)]:=fg underlying162 F8 (λ_=>aa) rfl
instance:Fld prog 164 0 0:=dR underlying164 rfl iF (ae)
instance:Fld prog 164 1 1:=dR underlying164 rfl CY (ae)
instance:Fld prog 164 2 2:=dR underlying164 rfl CY (ae)
instance:Str prog 164 [(0,1),(1,1),(2,1)] [(.int .i64 0),(.int .u64 0),(.int .u64 0)]:=fg underlying164 F7 (λ_=>aa) rfl
instance:Fld prog 173 0 0:=dR underlying173 rfl iF (ae)
instance:Fld prog 173 1 1:=dR underlying173 rfl iF (ae)
instance:Str prog 173 [(0,1),(1,1)] [(.int .i64 0),(.int .i64 0)]:=fg underlying173 LP (λ_=>aa) rfl
instance:Fld prog 175 0 0:=dR underlying175 rfl LP (ae)
instance:Fld prog 175 1 2:=dR underlying175 rfl xW (ae)
instance:Str prog 175 [(0,2),(2,1)] [(.int .i64 0),(.int .i64 0),(.slice none 0 0)]:=fg underlying175 TK (λ_=>aa) rfl
instance:Fld prog 186 0 0:=dR underlying186 rfl xV (ae)
instance:Fld prog 186 1 1:=dR underlying186 rfl iF (ae)
instance:Fld prog 186 2 2:=dR underlying186 rfl iF (ae)
instance:Fld prog 186 3 3:=dR underlying186 rfl iF (ae)
instance:Fld prog 186 4 4:=dR underlying186 rfl iF (ae)
instance:Str prog 186 [(0,1),(1,1),(2,1),(3,1),(4,1)] [(.string ByteArray.empty),(.int .i64 0),(.int .i64 0),(.int .i64 0),(.int .i64 0)]:=fg underlying186 F6 (λ_=>aa) rfl
instance:Fld prog 196 0 0:=dR underlying196 rfl xV (ae)
instance:Fld prog 196 1 1:=dR underlying196 rfl iF (ae)
instance:Fld prog 196 2 2:=dR underlying196 rfl iF (ae)
instance:Str prog 196 [(0,1),(1,1),(2,1),(3,1),(4,1)] [(.string ByteArray.empty),(.int .i64 0),(.int .i64 0),(.int .i64 0),(.int .i64 0)]:=fg underlying196 F5 (λ_=>aa) rfl
instance:Fld prog 198 0 0:=dR underlying198 rfl iF (ae)
instance:Fld prog 198 1 1:=dR underlying198 rfl xV (ae)
instance:Fld prog 198 2 2:=dR underlying198 rfl iF (ae)
instance:Fld prog 198 3 3:=dR underlying198 rfl iF (ae)
instance:Str prog 198 [(0,1),(1,1),(2,1),(3,1)] [(.int .i64 0),(.string ByteArray.empty),(.int .i64 0),(.int .i64 0)]:=fg underlying198 F4 (λ_=>aa) rfl
instance:Fld prog 201 0 0:=dR underlying201 rfl iF (ae)
instance:Fld prog 201 1 1:=dR underlying201 rfl xV (ae)
instance:Fld prog 201 2 2:=dR underlying201 rfl AZ (ae)
instance:Str prog 201 [(0,1),(1,1),(2,1)] [(.int .i64 0),(.string ByteArray.empty),(.slice none 0 0)]:=fg underlying201 F3 (λ_=>aa) rfl
instance:Fld prog 203 0 0:=dR underlying203 rfl iF (ae)
instance:Fld prog 203 1 1:=dR underlying203 rfl xX (ae)
instance:Str prog 203 [(0,1),(1,1)] [(.int .i64 0),(.slice none 0 0)]:=fg underlying203 EZ (λ_=>aa) rfl
instance:Fld prog 205 0 0:=dR underlying205 rfl xV (ae)
instance:Fld prog 205 1 1:=dR underlying205 rfl xV (ae)
instance:Str prog 205 [(0,1),(1,1)] [(.string ByteArray.empty),(.string ByteArray.empty)]:=fg underlying205 EY (λ_=>aa) rfl
instance:Fld prog 231 0 0:=dR underlying231 rfl XZ (ae)
instance:Fld prog 231 1 1:=dR underlying231 rfl xW (ae)
instance:Str prog 231 [(0,1),(1,1)] [(.int .u8 0),(.slice none 0 0)]:=fg underlying231 EX (λ_=>aa) rfl
instance:Fld prog 237 0 0:=dR underlying237 rfl xY (ae)
instance:Fld prog 237 1 1:=dR underlying237 rfl CZ (ae)
instance:Fld prog 237 2 2:=dR underlying237 rfl GP (ae)
instance:Fld prog 237 3 3:=dR underlying237 rfl TI (ae)
instance:Str prog 237 [(0,1),(1,1),(2,1),(3,1)] [(.slice none 0 0),(.slice none 0 0),(.slice none 0 0),(.map none)]:=fg underlying237 TH (λ_=>aa) rfl
instance:Fld prog 241 0 0:=dR underlying241 rfl iF (ae)
instance:Fld prog 241 1 1:=dR underlying241 rfl iF (ae)
instance:Fld prog 241 2 2:=dR underlying241 rfl TG (ae)
instance:Str prog 241 [(0,1),(1,1),(2,1)] [(.int .i64 0),(.int .i64 0),(.slice none 0 0)]:=fg underlying241 TF (λ_=>aa) rfl
instance:Fld prog 257 1 1:=dR underlying257 rfl iF (ae)
instance:Fld prog 263 0 0:=dR underlying263 rfl TD (ae)
instance:Str prog 263 [(0,1)] [(.slice none 0 0)]:=fg underlying263 TC (λ_=>aa) rfl
instance:Fld prog 271 1 1:=dR underlying271 rfl iF (ae)
instance:Str prog 271 [(0,1),(1,1)] [(.string ByteArray.empty),(.int .i64 0)]:=fg underlying271 LO (λ_=>aa) rfl
instance:Fld prog 318 0 0:=dR underlying318 rfl xW (ae)
instance:Fld prog 318 1 1:=dR underlying318 rfl iF (ae)
instance:Fld prog 318 2 2:=dR underlying318 rfl iF (ae)
instance:Fld prog 318 3 3:=dR underlying318 rfl LN (ae)
instance:Str prog 318 [(0,1),(1,1),(2,1),(3,1)] [(.slice none 0 0),(.int .i64 0),(.int .i64 0),(.slice none 0 0)]:=fg underlying318 TA (λ_=>aa) rfl
instance:Fld prog 320 0 0:=dR underlying320 rfl iF (ae)
instance:Fld prog 320 1 1:=dR underlying320 rfl iF (ae)
instance:Fld prog 320 2 2:=dR underlying320 rfl iF (ae)
instance:Fld prog 320 3 3:=dR underlying320 rfl iF (ae)
instance:Str prog 320 [(0,1),(1,1),(2,1),(3,1)] [(.int .i64 0),(.int .i64 0),(.int .i64 0),(.int .i64 0)]:=fg underlying320 EW (λ_=>aa) rfl
instance:Fld prog 340 0 0:=dR underlying340 rfl xW (ae)
instance:Str prog 340 [(0,1)] [(.slice none 0 0)]:=fg underlying340 Ty (λ_=>aa) rfl
instance:Fld prog 383 0 0:=dR underlying383 rfl xV (ae)
instance:Fld prog 383 1 1:=dR underlying383 rfl xV (ae)
instance:Str prog 383 [(0,1),(1,1)] [(.string ByteArray.empty),(.string ByteArray.empty)]:=fg underlying383 EV (λ_=>aa) rfl
instance:Fld prog 391 0 0:=dR underlying391 rfl Tz (ae)
instance:Str prog 391 [(0,1)] [(.slice none 0 0)]:=fg underlying391 Tv (λ_=>aa) rfl
end
section
variable {A:Hp}{F H' R:dD}
section
variable {G:dJ}{P:Program}{t:Tm}{H:dD}{dst:Option Tmp}{ty:TypeId}{pos:String}{after:Array Edge}{g:Option (Nat×Bool)}
theorem tA {L:pw}(h:Sep (eU F::H) L):∃L1 L2,L=L1++L2∧Sep F L1∧Sep H L2:=h
instance Sl.star {F:dD}{s:SV}{α:Type}{e:Enc α}{xs:List α} [h:Sl F s e xs]:Sl (eU F::H) s e xs:=
 ⟨λL hL=>by
  obtain⟨L1,L2,rfl,h1,_⟩:=tA hL
  exact(h.out L1 h1).mono λx hx=>Yy _ hx⟩
class nR (H:dD) (A:Hp) (R:outParam dD):Prop where
 out:∀L,Sep H L→∃L',L'.Perm L∧Sep (A::R) L'
instance nR.head {A:Hp}:nR (A::H) A H:=⟨λL h=>⟨L,.refl L,h⟩⟩
instance nR.tail {A B:Hp}{R:dD} [h:nR H A R]:nR (B::H) A (B::R):=
 ⟨λL hL=>by
  obtain⟨L1,L2,rfl,h1,h2⟩:=hL
  obtain⟨L',hp,M1,M2,rfl,h3,h4⟩:=h.out L2 h2
  refine⟨M1++(L1++M2),?_,M1,L1++M2,rfl,h3,L1,M2,rfl,h1,h4⟩
  rw[←Yf]
  refine((List.perm_append_comm.append_right M2).trans ?_)
  rw[Yf]
  exact hp.append_left L1⟩
theorem gJ (hr:nR H A R) (h:dH (A::R) H'):dH H H':=λL hL=>by
 obtain⟨b,h1,h2⟩:=hr.out L hL;obtain⟨a,M,h3,h4⟩:=h b h2;exact⟨a,M,h3,h4.trans h1⟩
theorem js [hr:nR H A R] (h:dH R H'):dH H (A::H'):=gJ hr h.keep
theorem qm (h:dH H H'):dH H (eU []::H'):=dH.add rfl h
theorem BB {b:dD}{s:SV}{α:Type}{e:Enc α}{xs:List α} [hr:mh H s e xs R] [a:nR R (eU F) b] (h:dH b H'):dH H (eU (Row s e xs::F)::H'):=by
 refine gi hr (dH.trans (H':=Row s e xs::eU F::b) ?_ ?_)
 ·exact dH.keep (gJ a dH.refl)
 ·intro L hL;obtain⟨L1,L2,rfl,h1,L3,d,rfl,h3,h4⟩:=hL;obtain⟨c,M,h5,h6⟩:=h d h4;exact⟨(L1++L3)++c,M,⟨L1++L3,c,rfl,⟨L1,L3,rfl,h1,h3⟩,h5⟩,bS⟩
theorem yT {c b:dD} [hr:nR H (eU F) R] [a:nR R (eU c) b] (h:dH b H'):dH H (eU (eU F::c)::H'):=by
 refine gJ hr (dH.trans (H':=eU F::eU c::b) ?_ ?_)
 ·exact dH.keep (gJ a dH.refl)
 ·intro L hL;obtain⟨L1,L2,rfl,h1,L3,e,rfl,h3,h4⟩:=hL;obtain⟨d,M,h5,h6⟩:=h e h4;exact⟨(L1++L3)++d,M,⟨L1++L3,d,rfl,⟨L1,L3,rfl,h1,h3⟩,h5⟩,bS⟩
theorem D9 {T U:TypeId}{x y:Operand}{xs ys:List Nat}{c:ByteArray}(hx:evo t x=some (.string (eG xs))) (hy:evo t y=some (.string c)) (a:∀n∈xs,n<256) (hc:dC c=ys):Ev G P ⟨dst,.binOp .neq T x y U,ty,pos,after,g⟩ t H (.bool (!decide (xs=ys))):=by
 have:=yf (G:=G) (P:=P) (H:=H) (dst:=dst) (ty:=ty) (pos:=pos) (after:=after) (g:=g) (T:=T) (U:=U) hx hy
 rwa [fD a,hc]at this
end
end
section
variable {C:Hp→dD}{E K T:TypeId}{ks:List (List Nat)}{r:Nat}{s:ByteArray}{want:Bool}{x:Operand}
section
variable {G:dJ}{P:Program}{N:Nat}{Q:Post}{t:Tm}{H:dD}{ops:Array Oper}{dst:Option Tmp}{ty:TypeId}{pos:String}{after:Array Edge}{g:Option (Nat×Bool)}
def Mp (r:Nat) (ks:List (List Nat)):Hp:=λL=>∃(es:List MapEntry) (clock:Nat) (qs:List ByteArray),L= [(r,.map es.toArray clock)]∧es.map (·.key)=qs.map Value.string∧qs.map dC=ks
theorem rb (k:ByteArray):∀(ks:List ByteArray) (es:List MapEntry) (i:Nat),es.map (·.key)=ks.map Value.string→
 (dC k∈ks.map dC∧∃p,Instr.findNow .string (.string k) es i=some (some p))∨(dC k ∉ ks.map dC∧Instr.findNow .string (.string k) es i=some none)
 | [],es,i,h=>by
  obtain rfl:es= []:=bA;exact .inr ⟨aq,rfl⟩
 |q::ks, [],i,h=>bx
 |q::ks,e::es,i,h=>by
  simp only[Xs,List.cons.injEq]at h;obtain⟨h1,h2⟩:=h;have hn:Instr.findNow .string (.string k) (e::es) i=match Instr.sameNow .string (.string k) (.string q)with
   |some true=>some (some (i,e.val))
   |some false=>Instr.findNow .string (.string k) es (i+1)
   |none=>none:=by rw[←h1];rfl
  rw[hn]
  by_cases hk:k=q
  ·subst hk;have b:(k==k)=true:=(MapKept.bytes_beq k k).2 rfl;left;simp only[Instr.sameNow,b];exact⟨aq,_,rfl⟩
  ·have b:(k==q)=false:=by
    cases h:(k==q)with
    |false=>rfl
    |true=>exact absurd ((MapKept.bytes_beq k q).1 h) hk
   have a:¬dC k=dC q:=λh=>hk (jy.1 h);simp only[Instr.sameNow,b];rcases rb k ks es (i+1) h2 with⟨h3,h4⟩|⟨h3,h4⟩
   ·exact .inl ⟨Xa _ h3,h4⟩
   ·exact .inr ⟨λh=>by
     rcases Xo.1 h with h|h
     ·exact a h
     ·exact h3 h,h4⟩
theorem oM (s:ByteArray):MapKept.IsKey .string (.string s):=by simp[MapKept.IsKey]
theorem Ek {k:IntKind}{i:Int} [hT:Und P T (.map K E)] (hx:evo t x=some (.int k i)):
 St G P ⟨dst,.makeMap T (some x),ty,pos,after,g⟩ t H (λu b=>∃r,u=.map (some r)∧b=Mp r []::H):=
 fun ρ hρ w hw=>by
  have hr:(execOp ρ ⟨dst,.makeMap T (some x),ty,pos,after,g⟩).run P w=.ok (.value (.map (some w.heap.size))) {w with heap:=w.heap.push (.map #[] 0)}:=by
   simp only[execOp,Vs,Instr.makeMap,hρ _ _ hx,Sem.run_bind,ef (T:=T),Result.andThen_ok,asInt,asIntOf,Sem.run_pure,run_newObj]
  rw[hr];exact⟨_,(hw.alloc _).cons λ_ a=>⟨[],0, [],a,rfl,rfl⟩,w.heap.size,rfl,rfl⟩
theorem HW {y:Operand}{h l:Nat}{z:Value} [hT:Und P T (.map K E)] [c:Und P K .string] [hE:Inf P E h l z] (hx:evo t x=some (.map (some r))) (hy:evo t y=some (.string s)) [hf:Foc H Mp r ks C]:
 St G P ⟨dst,.lookup T x y true,ty,pos,after,g⟩ t H (λu m=>(∃v,u=.tuple #[v,.bool (decide (dC s∈ks))])∧m=H):=
 fun ρ hρ w hw=>by
  obtain⟨f,L,hL,hl⟩:=hw;obtain⟨L1,M,L2,rfl,⟨d,a,j,rfl,hk,rfl⟩,hB⟩:=hf.foc _ hL;have k:w.heap[r]? =some (.map d.toArray a):=hl.at_ (r,.map d.toArray a) aq;have e:=MapKept.run_getObj_map (P:=P) k;have b:=MapKept.run_checkKey (P:=P) (w:=w) c.out (oM s);rcases rb s j d 0 hk with⟨h1,⟨i,v⟩,h2⟩|⟨h1,h2⟩
  ·have h3:=MapKept.run_findKey (P:=P) (w:=w) c.out h2;have hr:(execOp ρ ⟨dst,.lookup T x y true,ty,pos,after,g⟩).run P w=.ok (.value (.tuple #[v,.bool true])) w:=by
    simp only[execOp,hρ _ _ hx,hρ _ _ hy,Instr.lookup,Sem.run_bind,ef (T:=T),Result.andThen_ok,e,Sem.run_pure,b,h3,↓reduceIte]
   rw[hr];exact⟨H,⟨f,_,hL,hl⟩,⟨v,by simp[h1]⟩,rfl⟩
  ·have h3:=MapKept.run_findKey (P:=P) (w:=w) c.out h2;have hr:(execOp ρ ⟨dst,.lookup T x y true,ty,pos,after,g⟩).run P w=.ok (.value (.tuple #[z,.bool false])) w:=by
    simp only[execOp,hρ _ _ hx,hρ _ _ hy,Instr.lookup,Sem.run_bind,ef (T:=T),Result.andThen_ok,e,Sem.run_pure,b,h3,mb (T:=E),↓reduceIte]
   rw[hr];exact⟨H,⟨f,_,hL,hl⟩,⟨z,by simp[h1]⟩,rfl⟩
theorem Az {y v:Operand}{u:Value} [hT:Und P T (.map K E)] [k:Und P K .string] (hx:evo t x=some (.map (some r))) (hy:evo t y=some (.string s)) (hv:evo t v=some u) [hf:Foc H Mp r ks C] (hno:dC s ∉ ks):
 St G P ⟨dst,.mapUpdate T x y v,ty,pos,after,g⟩ t H (λu n=>u=undef∧n=C (Mp r (ks++ [dC s]))):=
 fun ρ hρ w hw=>by
  obtain⟨j,L,hL,hl⟩:=hw;obtain⟨L1,M,L2,rfl,⟨c,a,d,rfl,hk,rfl⟩,m⟩:=hf.foc _ hL;have h:w.heap[r]? =some (.map c.toArray a):=hl.at_ (r,.map c.toArray a) aq;have l:=MapKept.run_getObj_map (P:=P) h;have f:=MapKept.run_checkKey (P:=P) (w:=w) k.out (oM s);rcases rb s d c 0 hk with⟨h1,_⟩|⟨h1,h2⟩
  ·exact absurd h1 hno
  ·have h3:=MapKept.run_findKey (P:=P) (w:=w) k.out h2;have e:=MapKept.run_setObj_map (P:=P) (.map (c.toArray.push {key:=.string s,val:=u,born:=a}) (a+1)) h;have hr:(execOp ρ ⟨dst,.mapUpdate T x y v,ty,pos,after,g⟩).run P w=.ok .skip (fW w r (.map (c.toArray.push {key:=.string s,val:=u,born:=a}) (a+1))):=by
    simp only[execOp,hρ _ _ hx,hρ _ _ hy,hρ _ _ hv,Instr.mapUpdate,Sem.run_bind,ef (T:=T),Result.andThen_ok,l,f,h3,e,Sem.run_pure];rfl
   rw[hr];refine⟨C (Mp r (d.map dC++ [dC s])),⟨⟨j.os,j.tape,j.output⟩,_,m _ [(r,.map (c.toArray.push {key:=.string s,val:=u,born:=a}) (a+1))] ⟨c++ [{key:=.string s,val:=u,born:=a}],a+1,d++ [s],aq,by simp[hk],aq⟩,?_⟩,rfl,rfl⟩;have:=lB.change (w':=fW w r (.map (c.toArray.push {key:=.string s,val:=u,born:=a}) (a+1))) (L1:=L1) (L2:=L2) (b:=r) (o:=.map c.toArray a) (o':=.map (c.toArray.push {key:=.string s,val:=u,born:=a}) (a+1)) bQ (iY h) (λi hi _=>gY hi)
   simpa using this
theorem dH.mp {R H':dD} [hr:Rem H Mp r ks R] (h:dH R H'):dH H (Mp r ks::H'):=dH.rem hr h.keep
theorem tq {o:Oper}{j d:Nat}{a:Act}(ha:Fr N t a) (b:o.guard=some (j,want)) (hj:(ops[j]?).bind (·.dst)=some d) (c:look t d=some undef):
 Region.wanted o (yielded ops a.tmps)=false:=by
 have h1:a.tmps[d]? =some undef:=ha.look _ _ c;have h2:yielded ops a.tmps j=none:=by
  unfold yielded;rw[hj];simp[h1,undef]
 unfold Region.wanted;rw[b];simp only[h2];rfl
theorem AP {l:List Oper}{op:Op}{j d:Nat}(hj:(ops[j]?).bind (·.dst)=some d) (hv:look t d=some undef) (hd:iJ N dst=true) (hk:O G P N ops l Q (put t dst undef) H):O G P N ops (⟨dst,op,ty,pos,after,some (j,want)⟩::l) Q t H:=by
 refine⟨λa w ha b=>?_⟩;unfold wpList;rw[tq (o:=⟨dst,op,ty,pos,after,some (j,want)⟩) ha rfl hj hv];rw[if_neg aq];exact hk.go _ _ (ha.put hd undef) b
end
end
section
variable {after:Array Edge}{dst:Option Tmp}{pos:String}{ty:TypeId}
section
variable {G:dJ}{P:Program}{ops:Array Oper}{N:Nat}{Q:Post}{t:Tm}{H:dD}
theorem FE {loud:Nat→Bool}{F:Nat→dD→Prop}{fuel:Nat}{b:Array Bool}{op:Op}{R:Value→dD→Prop}{k d:Nat}{want:Bool}(i:Nat) (hi:ops[i]? =some ⟨dst,op,ty,pos,after,some (k,want)⟩) (hk:(ops[k]?).bind (·.dst)=some d) (hv:look t d=some (.bool want)) (hr:Region.ready .any ops b= [i]) (hd:iJ N dst=true) (p:∀i,vD ops loud i b→F i H) (hs:St G P ⟨dst,op,ty,pos,after,some (k,want)⟩ t H R) (h:∀v c,R v c→An G P N ops loud F Q fuel (b.setIfInBounds i true) (put t dst v) c):An G P N ops loud F Q (fuel+1) b t H:=
 ⟨λa ha=>⟨p,λh0=>(cw),λj hj=>by
  rw[hr]at hj;obtain rfl:j=i:=by simpa using hj
  unfold OpK;simp only[hi];rw[if_pos dh];intro w m;have h1:=hs a.eval ha.agree w m;generalize (execOp a.eval _).run P w=r at*;cases r with
  |ok n w'=>
   cases n <;> simp only[ou]at h1 <;> simp only[px]
   case value u=>obtain⟨c,l,g⟩:=h1;exact⟨c,l,(h u c g).go _ (ha.put hd u)⟩
   case skip=>obtain⟨c,l,g⟩:=h1;exact⟨c,l,(h _ c g).go _ (ha.put hd _)⟩
   case enter f args=>
    exact h1.mono λe w'' he=>by
     cases e with
     |returned u=>obtain⟨c,l,g⟩:=he;exact⟨c,l,(h u c g).go _ (ha.put hd u)⟩
     |_=>exact he
  |halt x w'=>simp only[ou]at h1⟩⟩
theorem sH {T E U:TypeId}{x:Operand}{s:SV}{α:Type}{e:Enc α}{xs:List α}{g:Option (Nat×Bool)} [hT:Und P T (.slice E)] [hs:Sl H s e xs] (hx:evo t x=some s.val) (f:xs≠ []):Ev G P ⟨dst,.binOp .eql T x (.const (.slice none 0 0)) U,ty,pos,after,g⟩ t H (.bool false):=
 fun ρ hρ w hw=>by
  obtain⟨_,_,h3⟩:=hs.get hw;rcases h3 with⟨h4,_⟩|⟨b,off,C,E',fz,h4,_⟩
  ·exact absurd h4 f
  ·have h1:=ie (P:=P) (op:=.eql) (T:=T) (x:=x) (y:=.const (.slice none 0 0)) (w:=w) (a:=s.val) (b:=.slice none 0 0) (.inr rfl) (λc h=>bx);have h2:=jX (P:=P) (w:=w) (T:=T) (x:=s.val) (y:=.slice none 0 0) (r:=false) (λd=>by simp only[SV.val,h4,Op.equalIn,Sem.run_bind,ef (T:=T),Result.andThen_ok,Sem.run_pure]);have h5:(binOp .eql T s.val (.slice none 0 0)).run P w=.ok (.bool false) w:=by
    simp only[SV.val]at h2⊢;simp only[binOp,Sem.run_bind,h2,Result.andThen_ok,Sem.run_pure]
   simp only[execOp,hρ _ _ hx,hρ (.const (.slice none 0 0)) _ rfl,Sem.run_bind,h1,Result.andThen_ok,h5,Sem.run_pure]
end
end
section
variable {x:Operand}
section
variable {G:dJ}{P:Program}{ops:Array Oper}{N:Nat}{Q:Post}{t:Tm}{H:dD}{dst:Option Tmp}{ty:TypeId}{pos:String}{after:Array Edge}{g:Option (Nat×Bool)}
theorem et {T:TypeId}{y:Operand}{s:SV}{i n R:Nat}{z v:Value}{α:Type}{e:Enc α}{xs:List α}{a:α}{C:Hp→dD}(hx:evo t x=some (.pointer (s.elt n i 0))) (hy:evo t y=some v) [hT:Inf P T n R z] [hf:nM H s e xs C] [hv:gP e v a] (p:e.sz=n) (hlt:i<xs.length):
 St G P ⟨dst,.store T x y,ty,pos,after,g⟩ t H (λu S=>u=undef∧S=C (Row s e (xs.set i a))):=
 fun ρ hρ w hw=>by
  subst p;obtain⟨L1,M,L2,hl,J,K⟩:=hf.split hw;rcases J with⟨rfl,rfl,rfl⟩|⟨b,d,f,fz,F,N,L,rfl,E,B,A⟩
  ·simp at hlt
  ·have m:w.heap[b]? =some (.cells d f fz):=hl.at_ (b,.cells d f fz) aq;have q:i*e.sz+e.sz≤d.size:=by
    rw[E,show i*e.sz+e.sz=(i+1)*e.sz from bt];exact Vu _ a8
   have k:=iy (P:=P) (o:=i*e.sz) (e.f a) 0 d w m (λj _ h=>B.free j (by rw[e.len]at h;omega)) bN (λu c=>e.one a u c);have l:v.cells=(e.f a).toArray:=by rw[←hv.out,e.v_cells]
   have hn:v.cells.size=e.sz:=by rw[l];simp[e.len]
   have hx':=hρ _ _ hx;simp only[SV.elt,F,Vs,X6,Vw]at hx';have hr:(execOp ρ ⟨dst,.store T x y,ty,pos,after,g⟩).run P w=.ok .skip (fW w b (.cells (gL d (i*e.sz) (e.f a)) f fz)):=by
    simp only[execOp,hx',hρ _ _ hy,Instr.storeAt,Instr.sureAddr,storeVar,Sem.run_bind,Sem.run_pure,Result.andThen_ok,fy (T:=T),hn];simp only[ne_eq,not_true_eq_false,↓reduceIte];rw[l];simp only[X6]at k⊢;rw[k];rfl
   rw[hr];refine⟨C (Row s e (xs.set i a)),⟨⟨hw.1.os,hw.1.tape,hw.1.output⟩,_,K _ [(b,.cells (gL d (i*e.sz) (e.f a)) f fz)] (.inr ⟨b,_,f,fz,F,by rw[Ub];exact N,L,rfl,by rw[iA,E],by rw[iA];exact B,?_⟩),?_⟩,rfl,rfl⟩
   ·intro j u c;rw[jc _ _ _ _ (by rw[e.len];exact q),e.len];rw[U6,if_pos hlt,e.all_append,e.all_cons]at c;have r:(e.all (xs.take i)).length=i*e.sz:=cf
    by_cases hj:j<i*e.sz
    ·rw[if_neg a8];rw[Yv a8,e.all_take,Vp hj]at c;exact A j u c
    ·rw[Yu a8,r]at c
     by_cases hj2:j<i*e.sz+e.sz
     ·rw[if_pos a8];rw[Yv bN]at c;exact c
     ·rw[if_neg a8];rw[Yu bN,e.len,e.all_drop,Xh,Vy,Nat.one_mul]at c;exact A j u (by rw[←c];congr 1;omega)
   ·have:=lB.change (w':=fW w b (.cells (gL d (i*e.sz) (e.f a)) f fz)) (L1:=L1) (L2:=L2) (b:=b) (o:=.cells d f fz) (o':=.cells (gL d (i*e.sz) (e.f a)) f fz) bQ (iY m) (λi hi _=>gY hi)
    simpa using this
theorem Mu {S D:TypeId}{ds:TypeDesc}{k k':IntKind}{i:Int} [hs:Und P S ds] [hd:Und P D (.int k')] (hx:evo t x=some (.int k i)) (c:Int) (h:k'.wrap i=c):
 Ev G P ⟨dst,.convert S D x,ty,pos,after,g⟩ t H (.int k' c):=
 fun ρ hρ w _=>by
  have e:(underlying S).run P w=.ok ds w:=by simp[underlying,hs.out]
  have a:(underlying D).run P w=.ok (.int k') w:=by simp[underlying,hd.out]
  simp only[execOp,convert,hρ _ _ hx,Sem.run_bind,e,a,Result.andThen_ok];cases ds <;> simp[Conv.intToInt,h]
end
end
section
variable {G:dJ}{P:Program}{N:Nat}{Q:Post}{t:Tm}{H:dD}{dst:Option Tmp}{ty:TypeId}{pos:String}{after:Array Edge}{g:Option (Nat×Bool)}
end
section
variable {F F' H':dD}{α:Type}{e:Enc α}{i:Nat}{s:SV}{xs:List α}
theorem Kd (h:F.Perm F'):∀L,Sep F L→∃a,a.Perm L∧Sep F' a:=by
 induction h with
 |nil=>exact λL hL=>⟨L,.refl L,hL⟩
 |cons A _ ih=>
  rintro L ⟨L1,L2,rfl,h1,h2⟩;obtain⟨a,h3,h4⟩:=ih L2 h2;exact⟨L1++a,h3.append_left L1,L1,a,rfl,h1,h4⟩
 |swap A B l=>
  rintro L ⟨L1,L2,rfl,h1,L3,b,rfl,h3,h4⟩;refine⟨L3++(L1++b),?_,L3,L1++b,rfl,h3,L1,b,rfl,h1,h4⟩;rw[←Yf,←Yf];exact List.perm_append_comm.append_right b
 |trans _ _ ih1 ih2=>
  intro L hL;obtain⟨a,h1,h2⟩:=ih1 L hL;obtain⟨c,h3,h4⟩:=ih2 a h2;exact⟨c,h3.trans h1,h4⟩
theorem dH.perm (h:F.Perm F'):dH F F':=λL hL=>
 let ⟨L',h1,h2⟩:=Kd h L hL;⟨L', [],h2,dt⟩
theorem UQ {H:dD}(h:dH F F'):dH (F++H) (F'++H):=λL hL=>by
 obtain⟨L1,L2,rfl,h1,h2⟩:=pH hL;obtain⟨a,M,h3,h4⟩:=h L1 h1;refine⟨a++L2,M,tI h3 h2,?_⟩;rw[Yf];refine(List.Perm.append_left a List.perm_append_comm).trans ?_;rw[←Yf];exact h4.append_right L2
theorem dH.unstar {H:dD}:dH (eU F::H) (F++H):=λL hL=>by
 obtain⟨L1,L2,rfl,h1,h2⟩:=hL;exact⟨L1++L2, [],tI h1 h2,aq⟩
theorem Sl.hsub {H:dD}(h:dH H H') (hs:Sl H' s e xs):Sl H s e xs:=
 ⟨λL hL=>by
  obtain⟨a,M,h1,h2⟩:=h L hL;exact(hs.out a h1).mono λx hx=>h2.subset (Yy _ hx)⟩
section
variable {H:dD}{ι κ:Type}
def Cl (f:ι→dD) (l:List ι):Hp:=eU (l.flatMap f)
theorem dH.cl {f:ι→dD}{l:List ι}{R:dD} [hr:Rem H Cl f l R] (h:dH R H'):dH H (Cl f l::H'):=dH.rem hr h.keep
theorem lY {f:ι→dD}{l:List ι}{x:ι}(h:l[i]? =some x):dH (Cl f l::H) (f x++(Cl f (l.take i)::Cl f (l.drop (i+1))::H)):=by
 have hi:=(Yk.1 h).1;have e:l=l.take i++x::l.drop (i+1):=by
  have:=Vd i l;rw[List.drop_eq_getElem_cons hi]at this;rw[(Yk.1 h).2]at this;exact this.symm
 refine dH.unstar.trans ?_;have h2:(l.flatMap f++H).Perm (f x++((l.take i).flatMap f++((l.drop (i+1)).flatMap f++H))):=by
  conv=>lhs;rw[e]
  rw[S5,Vx,Yf,Yf];exact List.perm_append_comm_assoc ..
 refine(dH.perm h2).trans ?_;have h3:dH ((l.take i).flatMap f++((l.drop (i+1)).flatMap f++H)) (Cl f (l.take i)::Cl f (l.drop (i+1))::H):=dH.star (dH.star dH.refl);have:∀A B C:dD,dH B C→dH (A++B) (A++C):=by
  intro A B C b
  induction A with
  |nil=>exact b
  |cons a A ih=>exact dH.keep ih
 exact this _ _ _ h3
theorem Hk {f:ι→dD}{l l':List ι}{y:ι}:dH (f y++(Cl f l::Cl f l'::H)) (Cl f (l++y::l')::H):=by
 have h1:dH (f y++(Cl f l::Cl f l'::H)) (f y++(l.flatMap f++(l'.flatMap f++H))):=by
  have:∀A B C:dD,dH B C→dH (A++B) (A++C):=by
   intro A B C b
   induction A with
   |nil=>exact b
   |cons a A ih=>exact dH.keep ih
  exact this _ _ _ (dH.unstar.trans (this _ _ _ dH.unstar))
 refine h1.trans ?_;have h2:(f y++(l.flatMap f++(l'.flatMap f++H))).Perm ((l++y::l').flatMap f++H):=by
  rw[S5,Vx,Yf,Yf];exact List.perm_append_comm_assoc ..
 exact(dH.perm h2).trans (dH.star dH.refl)
theorem ur {f:ι→dD}{l:List ι}(y:ι) (hi:i<l.length):dH (f y++(Cl f (l.take i)::Cl f (l.drop (i+1))::H)) (Cl f (l.set i y)::H):=by
 rw[U6,if_pos hi];exact Hk
theorem ga {f:ι→dD}(h:dH H H'):dH H (Cl f []::H'):=dH.add rfl h
theorem o4 {f:ι→dD}{l:List ι}(y:ι):dH (f y++(Cl f l::H)) (Cl f (l++ [y])::H):=by
 have:=Hk (H:=H) (f:=f) (l:=l) (l':= []) (y:=y);refine dH.trans ?_ this;have h3:∀A B C:dD,dH B C→dH (A++B) (A++C):=by
  intro A B C b
  induction A with
  |nil=>exact b
  |cons a A ih=>exact dH.keep ih
 exact h3 _ _ _ (dH.keep (ga dH.refl))
theorem MK {f:ι→dD}{l:List ι}{x:ι}(h:l[i]? =some x) (hs:∀R,Sl (f x++R) s e xs):Sl (Cl f l::H) s e xs:=Sl.hsub (lY h) (hs _)
end
end
end Go.Sx
namespace Go.Sx
open Go
theorem Row.pre {α:Type}{s g:SV}{e:Enc α}{xs ys:List α}{L:pw}(h:Row g e (xs++ys) L) (ha:s.a=g.a) (hc:s.c=g.c) (hn:s.n=xs.length):Row s e xs L:=by
 rcases h with⟨rfl,h2,rfl⟩|⟨b,C,E,fz,h1,h2,h3,rfl,h5,h6,d⟩
 ·obtain⟨rfl,rfl⟩:=List.append_eq_nil_iff.1 h2;obtain⟨a,n,c⟩:=s;simp only at ha hc hn;subst ha;subst hc;subst hn;exact .inl ⟨rfl,rfl,rfl⟩
 ·rw[Ya]at h2;refine .inr ⟨b,C,E,fz,ha.trans h1,hn,a8,rfl,by rw[hc];exact h5,h6,λj v hv=>d j v ?_⟩;rw[e.all_append,Yv (Yk.1 hv).1];exact hv
section
variable {G:dJ}{P:Program}{N:Nat}{Q:Post}{t:Tm}{H:dD}{dst:Option Tmp}{ty:TypeId}{pos:String}{after:Array Edge}{g:Option (Nat×Bool)}{α:Type}{e:Enc α}
theorem St.post {o:Oper}{R1 R2:Value→dD→Prop}(h:St G P o t H R1) (hk:∀v b,R1 v b→∃a,dH b a∧R2 v a):St G P o t H R2:=fun ρ hρ w hw=>by
 have h1:=h ρ hρ w hw;revert h1;generalize (execOp ρ o).run P w=r;intro h1;cases r with
 |ok n w'=>
  cases n <;> simp only[ou]at h1⊢
  case value v=>obtain⟨b,h2,h3⟩:=h1;obtain⟨a,h4,h5⟩:=hk _ _ h3;exact⟨a,h4.sat h2,h5⟩
  case skip=>obtain⟨b,h2,h3⟩:=h1;obtain⟨a,h4,h5⟩:=hk _ _ h3;exact⟨a,h4.sat h2,h5⟩
  case enter f args=>
   refine h1.mono λe w'' he=>?_;cases e with
   |returned v=>obtain⟨b,h2,h3⟩:=he;obtain⟨a,h4,h5⟩:=hk _ _ h3;exact⟨a,h4.sat h2,h5⟩
   |_=>exact he.elim
 |halt x w'=>simp only[ou]at h1
end
end Go.Sx
namespace Go.Sx
open Go
section
variable {G:dJ}{P:Program}{N:Nat}{Q:Post}{t:Tm}{H:dD}
theorem Qz {x y:Code}(F:Tm) (h:W G P N x (λe a b=>e=.normal∧Sub F a∧b=H) t H) (k:W G P N y Q F H):W G P N (.seq x y) Q t H:=
 yV (Al h λe a b d=>by
  obtain⟨rfl,c,rfl⟩:=d;exact FR c k)
theorem YI {p:Prop} [Decidable p] (h:¬p):false=decide p:=(Yr h).symm
theorem YH {p:Prop} [Decidable p] (h:p):true=decide p:=(Ys h).symm
theorem YJ {p q:Prop} [Decidable p] [Decidable q] (h:p↔q):decide p=decide q:=Vm.2 h
end
end Go.Sx
