import Derived.Test.YtefgpomabdplbaaGreatDoorQ5
set_option linter.unusedVariables false
set_option linter.unusedSimpArgs false
set_option linter.unusedSectionVars false
set_option linter.unnecessarySimpa false
set_option maxHeartbeats 0
namespace Go.Sx
open Go
class fK {α:Type}(e:Enc α) (v:Value) (x:outParam α):Prop where
 out:e.v x=v
instance {n:Nat}:fK eB (.int .u8 ((n:Nat):Int)) n:=⟨rfl⟩
instance {i:Int}:fK eI (.int .i64 i) i:=⟨rfl⟩
instance {s:ByteArray}:fK eS (.string s) s:=⟨rfl⟩
instance {s:SV}:fK eSV s.val s:=⟨rfl⟩
class jG {α:Type}(e:Enc α) (x:α) (v:outParam Value):Prop where
 out:e.v x=v
instance {n:Nat}:jG eB n (.int .u8 (n:Int)):=⟨rfl⟩
instance {i:Int}:jG eI i (.int .i64 i):=⟨rfl⟩
instance {s:ByteArray}:jG eS s (.string s):=⟨rfl⟩
instance {s:SV}:jG eSV s s.val:=⟨rfl⟩
section
variable {G:cK}{P:Program}{N:Nat}{Q:Post}{t:Tm}{H:cG}{ops:Array Oper}{dst:Option Tmp}{ty:TypeId}{pos:String}{after:Array Edge}{g:Option (Nat×Bool)}
theorem iN {T E:TypeId}{sz bb:Nat}{z:Value}{α:Type}(e:Enc α) [hT:Und P T (.slice E)] [hE:Inf P E sz bb z] (hsz:sz=e.sz):
 St G P ⟨dst, .buildSlice T 0 #[],ty,pos,after,g⟩ t H (fun u H'=> ∃s:SV,u=s.val∧H'=Row s e []::H):=by
 subst hsz
 exact dC e [] (by simp only[rY,Enc.parts]) rfl (cv)
theorem ew {T E:TypeId}{sz bb:Nat}{z:Value}{v1:Value}{x1:Operand}{α:Type}(e:Enc α) {y1:α} [hT:Und P T (.slice E)] [hE:Inf P E sz bb z] (hx1:evo t x1=some v1) [hv1:fK e v1 y1] (hsz:sz=e.sz):
 St G P ⟨dst, .buildSlice T 1 #[(0,x1)],ty,pos,after,g⟩ t H (fun u H'=> ∃s:SV,u=s.val∧H'=Row s e [y1]::H):=by
 subst hsz
 exact dC e [y1] (by simp only[rY,Enc.parts,hx1,hv1.out]) rfl (cv)
theorem D1 {T E:TypeId}{sz bb:Nat}{z:Value}{v1 v2:Value}{x1 x2:Operand}{α:Type}(e:Enc α) {y1 y2:α} [hT:Und P T (.slice E)] [hE:Inf P E sz bb z] (hx1:evo t x1=some v1) (hx2:evo t x2=some v2) [hv1:fK e v1 y1] [hv2:fK e v2 y2] (hsz:sz=e.sz):
 St G P ⟨dst, .buildSlice T 2 #[(0,x1),(1,x2)],ty,pos,after,g⟩ t H (fun u H'=> ∃s:SV,u=s.val∧H'=Row s e [y1,y2]::H):=by
 subst hsz
 exact dC e [y1,y2] (by simp only[rY,Enc.parts,hx1,hx2,hv1.out,hv2.out]) rfl (cv)
theorem qI {T E:TypeId}{sz bb:Nat}{z:Value}{v1 v2 v3 v4:Value}{x1 x2 x3 x4:Operand}{α:Type}(e:Enc α) {y1 y2 y3 y4:α} [hT:Und P T (.slice E)] [hE:Inf P E sz bb z] (hx1:evo t x1=some v1) (hx2:evo t x2=some v2) (hx3:evo t x3=some v3) (hx4:evo t x4=some v4) [hv1:fK e v1 y1] [hv2:fK e v2 y2] [hv3:fK e v3 y3] [hv4:fK e v4 y4] (hsz:sz=e.sz):
 St G P ⟨dst, .buildSlice T 4 #[(0,x1),(1,x2),(2,x3),(3,x4)],ty,pos,after,g⟩ t H (fun u H'=> ∃s:SV,u=s.val∧H'=Row s e [y1,y2,y3,y4]::H):=by
 subst hsz
 exact dC e [y1,y2,y3,y4] (by simp only[rY,Enc.parts,hx1,hx2,hx3,hx4,hv1.out,hv2.out,hv3.out,hv4.out]) rfl (cv)
theorem fX {T:TypeId}{x:Operand}{s:SV}{i sz:Nat}{v:Value}{α:Type}{e:Enc α}{xs:List α}(hx:evo t x=some (.pointer (s.elt sz i 0))) [hT:One P T] [hs:Sl H s e xs] (hsz:e.sz=sz) (ha:e.agg=false) (y:α) (hy:xs[i]? =some y) [hv:jG e y v]:
 Ev G P ⟨dst, .load T x,ty,pos,after,g⟩ t H v:=by subst hsz;exact hv.out ▸ uM hx ha y hy
theorem yR {T:TypeId}{x:Operand}{s:SV}{i sz:Nat}{v:Value}{α:Type}{e:Enc α}{xs:List α}(hx:evo t x=some (.pointer (s.elt sz i 0))) [hT:Agg P T sz] [hs:Sl H s e xs] (hsz:e.sz=sz) (ha:e.agg=true) (y:α) (hy:xs[i]? =some y) [hv:jG e y v]:
 Ev G P ⟨dst, .load T x,ty,pos,after,g⟩ t H v:=by subst hsz;exact hv.out ▸ ug hx ha y hy
theorem pk {T:TypeId}{x:Operand}{s:SV}{i o sz:Nat}{v:Value}{α:Type}{e:Enc α}{xs:List α}(hx:evo t x=some (.pointer (s.elt sz i o))) [hT:One P T] [hs:Sl H s e xs] (hsz:e.sz=sz) (y:α) (hy:xs[i]? =some y) (hc:(e.f y)[o]? =some v):
 Ev G P ⟨dst, .load T x,ty,pos,after,g⟩ t H v:=by subst hsz;exact rN hx y hy hc
theorem Kc {x:Operand}{T E:TypeId}{s:SV}{α:Type}{e:Enc α}{xs:List α}(hx:evo t x=some s.val) [hT:Und P T (.slice E)] [hs:Sl H s e xs]:
 Ev G P ⟨dst, .call ⟨.builtin .len, #[x], #[T]⟩,ty,pos,after,g⟩ t H (.int .i64 ((xs.length:Nat):Int)):=Nx (T:=T) hx rfl
theorem yS {x:Operand}{T:TypeId}{s:ByteArray}(hx:evo t x=some (.string s)) [hT:Und P T .string]:
 Ev G P ⟨dst, .call ⟨.builtin .len, #[x], #[T]⟩,ty,pos,after,g⟩ t H (.int .i64 ((s.size:Nat):Int)):=B4 (T:=T) hx rfl
theorem eL {T E:TypeId}{x:Operand}{lo hi:Option Operand}{s:SV}{α:Type}{e:Enc α}{xs:List α}{sz bb:Nat}{z:Value}(hx:evo t x=some s.val) [hT:Und P T (.slice E)] [hE:Inf P E sz bb z] [hs:Sl H s e xs] (hsz:e.sz=sz)
 (l h:Nat) (hlo:match lo with|none=> l=0|some o=> ∃k j,evo t o=some (.int k j)∧j=(l:Int)) (hhi:match hi with|none=> h=xs.length|some o=> ∃k j,evo t o=some (.int k j)∧j=(h:Int)) (h1:l≤h) (h2:h≤xs.length):
 Ev G P ⟨dst, .slice T x lo hi none,ty,pos,after,g⟩ t H (s.cut sz l h).val:=by subst hsz;exact yO hx l h hlo hhi h1 h2
theorem Ci {T U:TypeId}{x y:Operand}{a b:Int}(hx:evo t x=some (.int .i64 a)) (hy:evo t y=some (.int .i64 b)) (c:Int) (h:IntKind.i64.wrap (a - b)=c):
 Ev G P ⟨dst, .binOp .sub T x y U,ty,pos,after,g⟩ t H (.int .i64 c):=
 fun ρ hρ w _=> by simp[execOp,hρ _ _ hx,hρ _ _ hy,eqGuard,binOp,Op.intArith,h]
theorem sE {T U:TypeId}{x y:Operand}{a b:Int}(hx:evo t x=some (.int .i64 a)) (hy:evo t y=some (.int .i64 b)) (c:Int) (h:IntKind.i64.wrap (a+b)=c):
 Ev G P ⟨dst, .binOp .add T x y U,ty,pos,after,g⟩ t H (.int .i64 c):=
 fun ρ hρ w _=> by simp[execOp,hρ _ _ hx,hρ _ _ hy,eqGuard,binOp,Op.intArith,h]
theorem cX {id:Nat}{l:List Oper}(hm:P.follows .mixedOrders=true) (h:An G P N l.toArray pL (at_ H) Q l.length (Array.replicate l.length false) t H):W G P N (.region id l.toArray true) Q t H:=df hm pL (at_ H) h
theorem yT {x:Operand}{i:Nat}{vs:Array Value}{v:Value}(hx:evo t x=some (.tuple vs)) (hv:vs.toList[i]? =some v):
 Ev G P ⟨dst, .extract x i,ty,pos,after,g⟩ t H v:=B5 hx (by rw[←Array.getElem?_toList];exact hv)
theorem Fh {T T2 E:TypeId}{x y:Operand}{s s2:SV}{bb a b:Nat}{z:Value}{α:Type}{e:Enc α}{xs ys:List α}{C:Hp→cG}(hx:evo t x=some (s.cut e.sz a b).val) (hy:evo t y=some s2.val) [hT:Und P T (.slice E)] [hE:Inf P E e.sz bb z] [hf:nx H s e xs C] [hs:Sl H s2 e ys] (h1:a≤b) (h2:b≤xs.length) (m:Nat) (hm:m=min ys.length (b - a)):
 St G P ⟨dst, .call ⟨.builtin .copy, #[x,y], #[T,T2]⟩,ty,pos,after,g⟩ t H (fun u H'=> u= .int .i64 ((m:Nat):Int)∧H'=C (Row s e (xs.take a++ys.take m++xs.drop (a+m)))):=
 fun ρ hρ w hw=> by
  obtain⟨q1,q2,q3⟩:=hs.get hw
  have hmy:m≤ys.length:=aa
  have hlen:(Builtin.lenOf s2.val).run P w= .ok ys.length w:=by simp[Builtin.lenOf,SV.val,q1]
  have hfirst:(Builtin.firstCells e.sz m s2.val).run P w= .ok (e.all (ys.take m)).toArray w:=by
   rcases q3 with⟨rfl,_⟩|⟨bk,off,C0,E0,fz,h4,hb,_,h6⟩
   ·simp at hmy;subst hmy
    rw[jL];rfl
   ·have:=ea (P:=P) (o:=off) hb (e.all (ys.take m)) (fun j v hv=> h6 j v (by
     rw[e.all_take]at hv
     have hj:=(Yk.1 hv).1
     rw[Yg]at hj
     rwa [List.getElem?_take_of_lt (aa)]at hv))
    rw[e.all_length,Yg,Nat.min_eq_left hmy]at this
    simp only[Builtin.firstCells,SV.val,h4,this]
  obtain⟨L1,M,L2,hl,hM,hB⟩:=hf.split hw
  have hsz:(e.all (ys.take m)).length=m*e.sz:=by rw[e.all_length,Yg,Nat.min_eq_left hmy]
  have hmn:Nat.min ys.length (b - a)=m:=hm.symm
  by_cases hm0:m=0
  ·subst hm0
   have he:xs.take a++ys.take 0++xs.drop (a+0)=xs:=an
   rw[he]
   have hr:(execOp ρ ⟨dst, .call ⟨.builtin .copy, #[x,y], #[T,T2]⟩,ty,pos,after,g⟩).run P w= .ok (.value (.int .i64 ((0:Nat):Int))) w:=by
    simp only[execOp,resolve,invoke,builtin,List.map_toArray,List.map_cons,List.map_nil,hρ _ _ hx,hρ _ _ hy,Sem.run_bind,Sem.run_pure,Result.andThen_ok,Builtin.copy_,List.getElem?_toArray,Xb,Xc,da (T:=T),SV.val,SV.cut]
    have hlen':=hlen
    have hfirst':=hfirst
    simp only[SV.val]at hlen' hfirst'
    simp only[hlen',Result.andThen_ok,hmn,dQ (T:=E) (s:=e.sz),hfirst']
    cases h:(if s.c=a then s.a else Option.map (fun x=> x.add (a*e.sz)) s.a) <;> simp[Enc.all_nil,storeCells,goInt]
   rw[hr]
   exact⟨C (Row s e xs),⟨hw.1,_,hB _ M hM,hl⟩,rfl,rfl⟩
  ·rcases hM with⟨rfl,rfl,rfl⟩|⟨bk,C0,E0,fz,g1,g2,g3,rfl,g5,g6,g7⟩
   ·simp at h2;omega
   ·have hbw:w.heap[bk]? =some (.cells C0 E0 fz):=hl.at_ (bk, .cells C0 E0 fz) (an)
    have hca:¬(s.c=a):=aa
    have hfit:a*e.sz+(e.all (ys.take m)).length≤C0.size:=by
     rw[hsz,g5,←Nat.add_mul];exact Nat.mul_le_mul_right _ (aa)
    have hst:=fw (P:=P) (o:=a*e.sz) (e.all (ys.take m)) 0 C0 w hbw (fun j _ h=> g6.free j (aa)) (aa) (e.all_one _)
    have hr:(execOp ρ ⟨dst, .call ⟨.builtin .copy, #[x,y], #[T,T2]⟩,ty,pos,after,g⟩).run P w= .ok (.value (.int .i64 ((m:Nat):Int))) (ec w bk (.cells (eO C0 (a*e.sz) (e.all (ys.take m))) E0 fz)):=by
     simp only[execOp,resolve,invoke,builtin,List.map_toArray,List.map_cons,List.map_nil,hρ _ _ hx,hρ _ _ hy,Sem.run_bind,Sem.run_pure,Result.andThen_ok,Builtin.copy_,List.getElem?_toArray,Xb,Xc,da (T:=T),SV.val,SV.cut]
     have hlen':=hlen
     have hfirst':=hfirst
     simp only[SV.val]at hlen' hfirst'
     simp only[hlen',Result.andThen_ok,hmn,dQ (T:=E) (s:=e.sz),hfirst',hca,↓reduceIte,g1,Option.map_some,gN,Nat.zero_add,Sem.run_bind]
     simp only[Nat.add_zero]at hst
     rw[hst]
     rfl
    rw[hr]
    refine⟨C (Row s e (xs.take a++ys.take m++xs.drop (a+m))),⟨⟨hw.1.os,hw.1.tape,hw.1.output⟩,_,hB _ [(bk, .cells (eO C0 (a*e.sz) (e.all (ys.take m))) E0 fz)] (.inr ⟨bk,_,E0,fz,g1,?_,g3,rfl,by rw[fx,g5],by rw[fx];exact g6,?_⟩),?_⟩,rfl,rfl⟩
    ·simp;omega
    ·intro j u hu
     rw[gh _ _ _ _ hfit,hsz]
     rw[e.all_append,e.all_append]at hu
     have hla:(e.all (xs.take a)).length=a*e.sz:=bG
     by_cases hj:j<a*e.sz
     ·rw[if_neg (aa)]
      rw[Yf,Yv (aa),e.all_take,List.getElem?_take_of_lt hj]at hu
      exact g7 j u hu
     ·by_cases hj2:j<a*e.sz+m*e.sz
      ·rw[if_pos (aa)]
       rw[Yf,Yu (aa),hla,Yv (aa)]at hu
       exact hu
      ·rw[if_neg (aa)]
       rw[Yu (by rw[Ya,hla,hsz];omega),Ya,hla,hsz,e.all_drop,Xh,Nat.add_mul]at hu
       exact g7 j u (by rw[←hu];congr 1;omega)
    ·have:=jc.change (w':=ec w bk (.cells (eO C0 (a*e.sz) (e.all (ys.take m))) E0 fz)) (L1:=L1) (L2:=L2) (b:=bk) (o:= .cells C0 E0 fz) (o':= .cells (eO C0 (a*e.sz) (e.all (ys.take m))) E0 fz) (bx) (fS hbw) (fun i hi _=> fh hi)
     simpa using this
theorem BM {T T2 E:TypeId}{x y:Operand}{s s2:SV}{sz bb a b:Nat}{z:Value}{α:Type}{e:Enc α}{xs ys:List α}{C:Hp→cG}(hx:evo t x=some (s.cut sz a b).val) (hy:evo t y=some s2.val) [hT:Und P T (.slice E)] [hE:Inf P E sz bb z] [hf:nx H s e xs C] [hs:Sl H s2 e ys] (hsz:e.sz=sz) (h1:a≤b) (h2:b≤xs.length) (m:Nat) (hm:m=min ys.length (b - a)):
 St G P ⟨dst, .call ⟨.builtin .copy, #[x,y], #[T,T2]⟩,ty,pos,after,g⟩ t H (fun u H'=> u= .int .i64 ((m:Nat):Int)∧H'=C (Row s e (xs.take a++ys.take m++xs.drop (a+m)))):=by subst hsz;exact Fh hx hy h1 h2 m hm
theorem Fi {T E:TypeId}{x:Operand}{s:SV}{xs:List Nat}{C:Hp→cG} [hT:Und P T (.slice E)] [hE:Und P E (.int .u8)] (hx:evo t x=some s.val) [hf:nx H s eB xs C] (hne:xs≠ []):
 St G P ⟨dst, .convert T T x,ty,pos,after,g⟩ t H (fun u H'=> u=s.val∧H'=C (Row s eB xs)):=
 fun ρ hρ w hw=> by
  obtain⟨L1,M,L2,hl,hM,hB⟩:=hf.split hw
  rcases hM with⟨rfl,rfl,rfl⟩|⟨b,C0,E0,fz,g1,g2,g3,rfl,g5,g6,g7⟩
  ·exact absurd rfl hne
  ·have hbw:w.heap[b]? =some (.cells C0 E0 fz):=hl.at_ (b, .cells C0 E0 fz) (an)
   obtain⟨fz',hfz,hok⟩:∃fz',(if fz.1==fz.2 then(C0.size,C0.size+1)else(min fz.1 C0.size,max fz.2 (C0.size+1)))=fz'∧Okf C0.size fz':=by
    refine⟨_,rfl,?_⟩
    by_cases h:fz.1=fz.2
    ·rw[if_pos (by simp[h])];exact .inr (Nat.le_refl _)
    ·rw[if_neg (by simp[h])]
     rcases g6 with h6|h6
     ·exact absurd h6 h
     ·exact .inr (by simp only[];omega)
   have hfr:w.freeze ⟨b,C0.size,none⟩ 1=ec w b (.cells C0 E0 fz'):=by
    unfold World.freeze ec
    rw[if_neg (ag)]
    congr 1
    apply Array.ext_getElem?
    intro i
    simp only[Array.getElem?_modify,Array.getElem?_setIfInBounds]
    have hlt:=(Array.getElem?_eq_some_iff.1 hbw).1
    by_cases hi:b=i
    ·subst hi
     rw[if_pos rfl,if_pos rfl,if_pos hlt,hbw,Option.map_some]
     rw[←hfz]
    ·rw[if_neg hi,if_neg hi]
   have hsh:w.shape? b=some (E0,C0.size):=by unfold World.shape?;rw[hbw]
   have hr:(execOp ρ ⟨dst, .convert T T x,ty,pos,after,g⟩).run P w= .ok (.value s.val) (ec w b (.cells C0 E0 fz')):=by
    simp only[execOp,convert,hρ _ _ hx,Sem.run_bind,da (T:=T),da (T:=E),Result.andThen_ok,SV.val,g1,BEq.rfl,markStringish,run_shape,hsh,run_freeze,hfr,Sem.run_pure]
   rw[hr]
   refine⟨C (Row s eB xs),⟨⟨hw.1.os,hw.1.tape,hw.1.output⟩,_,hB _ [(b, .cells C0 E0 fz')] (.inr ⟨b,C0,E0,fz',g1,g2,g3,rfl,g5,hok,g7⟩),?_⟩,rfl,rfl⟩
   have:=jc.change (w':=ec w b (.cells C0 E0 fz')) (L1:=L1) (L2:=L2) (b:=b) (o:= .cells C0 E0 fz) (o':= .cells C0 E0 fz') (bx) (fS hbw) (fun i hi _=> fh hi)
   simpa using this
theorem SC.out {f:FuncId}{args:List Value}{K:Value→cG→Prop}(h:SC G P f args H (fun v H'=> ∃H'',cJ H' H''∧K v H'')):SC G P f args H K:=
 ⟨h.enter,fun w hw=> (h.call w hw).mono fun e w' he=> by
  cases e with
  |returned v=> obtain⟨H',h1,H'',h2,h3⟩:=he;exact⟨H'',h2.sat h1,h3⟩
  |_=> exact he.elim⟩
class Rem (H:cG) {ι α:Type}(K:ι→α→Hp) (i:ι) (a:outParam α) (R:outParam cG):Prop where
 out:∀L,Sep H L→∃L',L'.Perm L∧Sep (K i a::R) L'
instance Rem.head {H:cG}{ι α:Type}{K:ι→α→Hp}{i:ι}{a:α}:Rem (K i a::H) K i a H:=⟨fun L h=> ⟨L, .refl L,h⟩⟩
instance Rem.tail {A:Hp}{H R:cG}{ι α:Type}{K:ι→α→Hp}{i:ι}{a:α} [h:Rem H K i a R]:Rem (A::H) K i a (A::R):=
 ⟨fun L hL=> by
  obtain⟨L1,L2,rfl,h1,h2⟩:=hL
  obtain⟨L',hp,M1,M2,rfl,h3,h4⟩:=h.out L2 h2
  refine⟨M1++(L1++M2),?_,M1,L1++M2,rfl,h3,L1,M2,rfl,h1,h4⟩
  rw[←Yf]
  refine((List.perm_append_comm.append_right M2).trans ?_)
  rw[Yf]
  exact hp.append_left L1⟩
theorem Rem.sat {R:cG}{ι α:Type}{K:ι→α→Hp}{i:ι}{a:α}(h:Rem H K i a R) {w:World}(hw:Sat G w H):Sat G w (K i a::R):=
 hw.imp fun L hL=> let ⟨L',h1,h2⟩:=h.out L hL;⟨L',h2, .inr h1⟩
theorem SC.rem {f:FuncId}{args:List Value}{K:Value→cG→Prop}{R:cG}{ι α:Type}{K':ι→α→Hp}{i:ι}{a:α} [h:Rem H K' i a R] (hc:SC G P f args (K' i a::R) K):SC G P f args H K:=
 hc.heap fun _ hw=> h.sat hw
def fB (F:cG):Hp:=fun L=> Sep F L
theorem SC.ex {f:FuncId}{args:List Value}{K:Value→cG→Prop}{α:Type}{A:α→Hp}(h:∀x,SC G P f args (A x::H) K):(∃_:α,True)→SC G P f args ((fun L=> ∃x,A x L)::H) K:=fun hx=>
 ⟨(h hx.choose).enter,fun w hw=> by
   obtain⟨hs,L,⟨L1,L2,rfl,⟨x,h1⟩,h2⟩,hl⟩:=hw
   exact(h x).call w ⟨hs,_,⟨L1,L2,rfl,h1,h2⟩,hl⟩⟩
theorem SC.star {f:FuncId}{args:List Value}{K:Value→cG→Prop}{F:cG}(h:SC G P f args (F++H) K):SC G P f args (fB F::H) K:=
 h.heap fun w hw=> by
  obtain⟨hs,L,⟨L1,L2,rfl,h1,h2⟩,hl⟩:=hw
  refine⟨hs,_,?_,hl⟩
  clear hl hs h
  revert h1
  generalize hF:F=F'
  clear hF
  induction F' generalizing L1 with
  |nil=> intro h1;obtain rfl:L1= []:=h1;exact h2
  |cons A F ih=>
   intro h1
   obtain⟨M1,M2,rfl,h3,h4⟩:=h1
   exact⟨M1,M2++L2,an,h3,ih M2 h4⟩
theorem mn {F:cG}:∀{L:nf},Sep (F++H) L→∃L1 L2,L=L1++L2∧Sep F L1∧Sep H L2:=by
 induction F with
 |nil=> intro L hL;exact⟨[],L,rfl,rfl,hL⟩
 |cons A F ih=>
  intro L hL
  obtain⟨M1,M2,rfl,h1,h2⟩:=hL
  obtain⟨N1,N2,rfl,h3,h4⟩:=ih h2
  exact⟨M1++N1,N2,an,⟨M1,N1,rfl,h1,h3⟩,h4⟩
theorem cJ.star {F:cG}{H':cG}(h:cJ H H'):cJ (F++H) (fB F::H'):=fun L hL=> by
 obtain⟨L1,L2,rfl,h1,h2⟩:=mn hL
 obtain⟨L',M,h3,h4⟩:=h L2 h2
 exact⟨L1++L',M,⟨L1,L',rfl,h1,h3⟩,by rw[Yf];exact h4.append_left L1⟩
class na (H:cG) (s:SV) {α:outParam Type}(e:outParam (Enc α)) (xs:outParam (List α)) (R:outParam cG):Prop where
 out:∀L,Sep H L→∃L',L'.Perm L∧Sep (Row s e xs::R) L'
instance na.head {H:cG}{s:SV}{α:Type}{e:Enc α}{xs:List α}:na (Row s e xs::H) s e xs H:=⟨fun L h=> ⟨L, .refl L,h⟩⟩
instance na.tail {A:Hp}{H R:cG}{s:SV}{α:Type}{e:Enc α}{xs:List α} [h:na H s e xs R]:na (A::H) s e xs (A::R):=
 ⟨fun L hL=> by
  obtain⟨L1,L2,rfl,h1,h2⟩:=hL
  obtain⟨L',hp,M1,M2,rfl,h3,h4⟩:=h.out L2 h2
  refine⟨M1++(L1++M2),?_,M1,L1++M2,rfl,h3,L1,M2,rfl,h1,h4⟩
  rw[←Yf]
  refine((List.perm_append_comm.append_right M2).trans ?_)
  rw[Yf]
  exact hp.append_left L1⟩
theorem cJ.rem {R H':cG}{ι α:Type}{K:ι→α→Hp}{i:ι}{a:α}(hr:Rem H K i a R) (h:cJ (K i a::R) H'):cJ H H':=fun L hL=> by
 obtain⟨L',h1,h2⟩:=hr.out L hL
 obtain⟨L'',M,h3,h4⟩:=h L' h2
 exact⟨L'',M,h3,h4.trans h1⟩
theorem gB {R H':cG}{s:SV}{α:Type}{e:Enc α}{xs:List α}(hr:na H s e xs R) (h:cJ (Row s e xs::R) H'):cJ H H':=fun L hL=> by
 obtain⟨L',h1,h2⟩:=hr.out L hL
 obtain⟨L'',M,h3,h4⟩:=h L' h2
 exact⟨L'',M,h3,h4.trans h1⟩
theorem KH {R H':cG}{b:Nat}{l:List Value} [hr:Rem H Vr b l R] (h:cJ R H'):cJ H (Vr b l::H'):=cJ.rem hr h.keep
theorem cJ.row {R H':cG}{s:SV}{α:Type}{e:Enc α}{xs:List α} [hr:na H s e xs R] (h:cJ R H'):cJ H (Row s e xs::H'):=gB hr h.keep
theorem cJ.nilRow {H':cG}{α:Type}{e:Enc α}(h:cJ H H'):cJ H (Row SV.nil e []::H'):=cJ.add (.inl ⟨rfl,rfl,rfl⟩) h
def Wr (b:Nat) (xs:List Nat):Hp:=fun L=> ∃s:SV,Sep [Vr b [s.val],Row s eB xs] L
theorem KG {R H':cG}{b:Nat}{xs:List Nat} [hr:Rem H Wr b xs R] (h:cJ R H'):cJ H (Wr b xs::H'):=cJ.rem hr h.keep
theorem HX {R R' H':cG}{b:Nat}{s:SV}{xs:List Nat} [hr:Rem H Vr b [s.val] R] [hr2:na R s eB xs R'] (h:cJ R' H'):cJ H (Wr b xs::H'):=by
 refine cJ.rem hr (cJ.trans (H':=Vr b [s.val]::Row s eB xs::R') ?_ ?_)
 ·exact cJ.keep (gB hr2 cJ.refl)
 ·intro L hL
  obtain⟨L1,L2,rfl,h1,L3,L4,rfl,h3,h4⟩:=hL
  obtain⟨L',M,h5,h6⟩:=h L4 h4
  exact⟨(L1++L3)++L',M,⟨L1++L3,L',rfl,⟨s,L1,L3,rfl,h1,L3, [],an,h3,rfl⟩,h5⟩,bz⟩
theorem HW {R H':cG}{b:Nat} [hr:Rem H Vr b [.slice none 0 0] R] (h:cJ R H'):cJ H (Wr b []::H'):=by
 refine cJ.rem hr fun L hL=> ?_
 obtain⟨L1,L2,rfl,h1,h2⟩:=hL
 obtain⟨L',M,h5,h6⟩:=h L2 h2
 exact⟨L1++L',M,⟨L1,L',rfl,⟨SV.nil,L1, [],an,h1, [], [],rfl, .inl ⟨rfl,rfl,rfl⟩,rfl⟩,h5⟩,by rw[Yf];exact h6.append_left L1⟩
theorem tt {f:FuncId}{args:List Value}{K:Value→cG→Prop}{R:cG}{b:Nat}{xs:List Nat}(hr:Rem H Wr b xs R) (h:∀s:SV,SC G P f args (Vr b [s.val]::Row s eB xs::R) K):SC G P f args H K:=
 SC.heap (H':=Wr b xs::R) ⟨(h SV.nil).enter,fun w hw=> by
  obtain⟨hs,L,⟨L1,L2,rfl,⟨s,M1,M2,rfl,h1,M3,M4,rfl,h2,h3⟩,h4⟩,hl⟩:=hw
  obtain rfl:M4= []:=h3
  exact(h s).call w ⟨hs,_,⟨M1,M3++L2,an,h1,M3,L2,rfl,h2,h4⟩,hl⟩⟩ fun _ hw=> hr.sat hw
def OE (ops:Array Oper) (loud:Nat→Bool) (listed:Array Bool) (i:Nat):Bool:=
 (List.range ops.size).all fun j=> !(loud j && listed.getD j false) ||match ops[j]? with
   |some oj=> oj.after.all fun e=> !(Region.binds .any e && e.on==i)
   |none=> true
theorem cH {loud:Nat→Bool}{listed:Array Bool}{i:Nat}(h:OE ops loud listed i=false):¬rj ops loud i listed:=by
 intro hl
 rw[←Bool.not_eq_true]at h
 refine h (List.all_eq_true.2 fun j _=> ?_)
 cases hlj:loud j with
 |false=> rfl
 |true=>
  cases hli:listed.getD j false with
  |false=> rfl
  |true=>
   cases hj:ops[j]? with
   |none=> rfl
   |some oj=>
    simp only[Bool.and_self,Bool.not_true,Bool.false_or]
    refine Array.all_eq_true'.2 fun e he=> ?_
    cases hb:Region.binds .any e with
    |false=> rfl
    |true=> have:=hl j oj hj hlj hli e he hb;simp[this]
theorem Mn {R:cG}{b:Nat}{xs:List Nat}(hr:Rem H Wr b xs R) {w:World}(hw:Sat G w H):∃s:SV,Sat G w (Vr b [s.val]::Row s eB xs::R):=by
 obtain⟨hs,L,⟨L1,L2,rfl,⟨s,M1,M2,rfl,h1,M3,M4,rfl,h2,h3⟩,h4⟩,hl⟩:=hr.sat hw
 obtain rfl:M4= []:=h3
 exact⟨s,hs,_,⟨M1,M3++L2,an,h1,M3,L2,rfl,h2,h4⟩,hl⟩
theorem FT {l:List Oper}{R:cG}(b:Nat) {xs:List Nat} [hr:Rem H Wr b xs R] (h:∀s:SV,O G P N ops l Q t (Vr b [s.val]::Row s eB xs::R)):O G P N ops l Q t H:=
 ⟨fun a w ha hw=> let ⟨s,hs⟩:=Mn hr hw;(h s).go a w ha hs⟩
theorem zV {c:Code}{H':cG}(hs:cJ H H') (h:W G P N c Q t H'):W G P N c Q t H:=⟨fun a w ha hw=> h.go a w ha (hs.sat hw)⟩
theorem du {l:List Oper}{H':cG}(hs:cJ H H') (h:O G P N ops l Q t H'):O G P N ops l Q t H:=⟨fun a w ha hw=> h.go a w ha (hs.sat hw)⟩
end
def gix:Nat→Nat:=fun i=> [11,8,1,2,3,4,5,6,7,9,10,12,13,14,15,17,18,19,20,21,16,0,22,23].getD i 0
def gokB (i:Nat):Bool:=decide (i<24) && !([13,14,15,16,17,18,19,22,23]:List Nat).contains i
theorem gok_lt {i:Nat}(h:gokB i=true):i<24:=by
 unfold gokB at h
 simp only[Bool.and_eq_true,decide_eq_true_eq]at h
 exact h.1
class iJ (i:Nat):Prop where
 out:gokB i=true
instance:iJ 0:=⟨ag⟩
instance:iJ 1:=⟨ag⟩
instance:iJ 2:=⟨ag⟩
instance:iJ 3:=⟨ag⟩
instance:iJ 4:=⟨ag⟩
instance:iJ 5:=⟨ag⟩
instance:iJ 6:=⟨ag⟩
instance:iJ 7:=⟨ag⟩
instance:iJ 8:=⟨ag⟩
instance:iJ 9:=⟨ag⟩
instance:iJ 11:=⟨ag⟩
instance:iJ 12:=⟨ag⟩
instance:iJ 20:=⟨ag⟩
instance:iJ 21:=⟨ag⟩
section
variable {G:cK}{P:Program}{N:Nat}{Q:Post}{t:Tm}{H:cG}{ops:Array Oper}
def Ex {β:Type}(F:β→cG):Hp:=fun L=> ∃s,Sep (F s) L
theorem pR:∀{F:cG}{R:cG}{L1 L2:nf},Sep F L1→Sep R L2→Sep (F++R) (L1++L2):=by
 intro F
 induction F with
 |nil=> intro R L1 L2 h1 h2;obtain rfl:L1= []:=h1;exact h2
 |cons A F ih=>
  intro R L1 L2 h1 h2
  obtain⟨M1,M2,rfl,h3,h4⟩:=h1
  rw[Yf]
  exact⟨M1,M2++L2,rfl,h3,ih h4 h2⟩
theorem mo {R:cG}{ι α β:Type}{K:ι→α→Hp}{i:ι}{a:α}{F:β→cG}(hK:K i a=Ex F) (hr:Rem H K i a R) {w:World}(hw:Sat G w H):∃s,Sat G w (F s++R):=by
 obtain⟨hs,L,⟨L1,L2,rfl,h1,h2⟩,hl⟩:=hr.sat hw
 rw[hK]at h1
 obtain⟨s,h1⟩:=h1
 exact⟨s,hs,_,pR h1 h2,hl⟩
theorem sA {R:cG}{ι α β:Type}{K:ι→α→Hp}{i:ι}{a:α}{F:β→cG}(hK:K i a=Ex F) (s:β):cJ (F s++R) (K i a::R):=fun L hL=> by
 obtain⟨L1,L2,rfl,h1,h2⟩:=mn hL
 exact⟨L1++L2, [],⟨L1,L2,rfl,by rw[hK];exact⟨s,h1⟩,h2⟩,an⟩
def Rd (b:Nat) (p:List Nat×Nat):Hp:=Ex fun s:SV=> [Vr b [.int .i64 ((p.2:Nat):Int), .int .i64 ((p.1.length:Nat):Int),s.val],Row s eB p.1]
theorem Fv {R:cG}{b k:Nat}{xs:List Nat}(hr:Rem H Rd b (xs,k) R) {w:World}(hw:Sat G w H):∃s:SV,Sat G w (Vr b [.int .i64 ((k:Nat):Int), .int .i64 ((xs.length:Nat):Int),s.val]::Row s eB xs::R):=
 mo (K:=Rd) rfl hr hw
theorem mC {l:List Oper}{R:cG}(b:Nat) {k:Nat}{xs:List Nat} [hr:Rem H Rd b (xs,k) R] (h:∀s:SV,O G P N ops l Q t (Vr b [.int .i64 ((k:Nat):Int), .int .i64 ((xs.length:Nat):Int),s.val]::Row s eB xs::R)):O G P N ops l Q t H:=
 ⟨fun a w ha hw=> let ⟨s,hs⟩:=Fv hr hw;(h s).go a w ha hs⟩
theorem ya {f:FuncId}{args:List Value}{K:Value→cG→Prop}{R:cG}{b k:Nat}{xs:List Nat}(hr:Rem H Rd b (xs,k) R) (h:∀s:SV,SC G P f args (Vr b [.int .i64 ((k:Nat):Int), .int .i64 ((xs.length:Nat):Int),s.val]::Row s eB xs::R) K):SC G P f args H K:=
 ⟨(h SV.nil).enter,fun w hw=> let ⟨s,hs⟩:=Fv hr hw;(h s).call w hs⟩
theorem cJ.rd {R H':cG}{b:Nat}{p:List Nat×Nat} [hr:Rem H Rd b p R] (h:cJ R H'):cJ H (Rd b p::H'):=cJ.rem hr h.keep
theorem cJ.rd' {R R' H':cG}{b k:Nat}{s:SV}{xs:List Nat}{n:Int} [hr:Rem H Vr b [.int .i64 ((k:Nat):Int), .int .i64 n,s.val] R] [hr2:na R s eB xs R'] (hn:n=((xs.length:Nat):Int)) (h:cJ R' H'):cJ H (Rd b (xs,k)::H'):=by
 subst hn
 refine cJ.rem hr (cJ.trans (H':=Vr b [.int .i64 ((k:Nat):Int), .int .i64 ((xs.length:Nat):Int),s.val]::Row s eB xs::R') ?_ ?_)
 ·exact cJ.keep (gB hr2 cJ.refl)
 ·exact(sA (K:=Rd) (i:=b) (a:=(xs,k)) rfl s).trans h.keep
class Glb (G:outParam cK) (H:cG):Prop where
 err:∀i,gokB i=true→∀L,Sep H L→∃E fz,(gix i,Obj.cells #[G.err i] E fz)∈L
 blk:∀i,gokB i=true→∀L,Sep H L→∃C E,(G.eb i,Obj.cells C E (0,0))∈L
 inj:∀a b,G.eb a=G.eb b→G.eo a=G.eo b→a=b
instance Glb.tail {A:Hp} [h:Glb G H]:Glb G (A::H):=
 ⟨fun i hi L hL=> by obtain⟨L1,L2,rfl,_,h2⟩:=hL;obtain⟨E,fz,hm⟩:=h.err i hi L2 h2;exact⟨E,fz,Yx _ hm⟩,
  fun i hi L hL=> by obtain⟨L1,L2,rfl,_,h2⟩:=hL;obtain⟨C,E,hm⟩:=h.blk i hi L2 h2;exact⟨C,E,Yx _ hm⟩,h.inj⟩
theorem dT (i:Nat) [h:iJ i] [hg:Glb G H]:cQ H (gix i) [G.err i]:=⟨hg.err i h.out⟩
end
class Tab (H:cG) (b:Nat) (l:outParam (List Nat)):Prop where
 out:∀L,Sep H L→∃E fz,(b,Obj.cells (l.map fun n=> Value.int .u32 ((n:Nat):Int)).toArray E fz)∈L
instance Tab.tail {A:Hp}{H:cG}{b:Nat}{l:List Nat} [h:Tab H b l]:Tab (A::H) b l:=
 ⟨fun L hL=> bO⟩
instance {H:cG}{b:Nat}{l:List Nat} [h:Tab H b l]:cQ H b (l.map fun n=> Value.int .u32 ((n:Nat):Int)):=⟨h.out⟩
instance:fK eB (.int .u8 0) 0:=⟨rfl⟩
instance:fK eB (.int .u8 1) 1:=⟨rfl⟩
instance:fK eB (.int .u8 4) 4:=⟨rfl⟩
instance:fK eB (.int .u8 99) 99:=⟨rfl⟩
instance:fK eB (.int .u8 100) 100:=⟨rfl⟩
instance:fK eB (.int .u8 110) 110:=⟨rfl⟩
end Go.Sx
