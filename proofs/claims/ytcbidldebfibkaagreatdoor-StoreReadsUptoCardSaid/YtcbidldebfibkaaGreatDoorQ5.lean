import Derived.Test.YtcbidldebfibkaaGreatDoorQ4
import Derived.MapKept
set_option linter.unusedVariables false
set_option linter.unusedSimpArgs false
set_option linter.unusedSectionVars false
set_option linter.unnecessarySimpa false
set_option maxHeartbeats 0
namespace Go.Sx
open Go
section
variable {G:cM}{P:Program}{N:Nat}{Q:fY}{t:Tm}{H:cG}{ops:Array Oper}{dst:Option Tmp}{ty:TypeId}{pos:String}{after:Array Edge}{g:Option (Nat×Bool)}
theorem oA {a b:Operand}{c:Operand}{va:Value}(hc:evo t c=some (.bool true)) (ha:evo t a=some va):Ev G P ⟨dst, .pick c a b,ty,pos,after,g⟩ t H va:=
 fun ρ hρ w _=> by simp[execOp,hρ _ _ hc,hρ _ _ ha,asBool]
theorem oB {a b:Operand}{c:Operand}{vb:Value}(hc:evo t c=some (.bool false)) (hb:evo t b=some vb):Ev G P ⟨dst, .pick c a b,ty,pos,after,g⟩ t H vb:=
 fun ρ hρ w _=> by simp[execOp,hρ _ _ hc,hρ _ _ hb,asBool]
section
variable {T U:TypeId}{x y:Operand}{k k':IntKind}{i j:Int}(M:Nat)
theorem lV (hM:2 ^ k.bits=M) (hx:evo t x=some (.int k i)) (hy:evo t y=some (.int k j)) (hk:k.signed=false) (a b:Nat) (ha:i=a) (hb:j=b):
 Ev G P ⟨dst, .binOp .add T x y U,ty,pos,after,g⟩ t H (.int k (((a+b) % M:Nat):Int)):=by subst hM;exact IL hx hy hk a b ha hb
theorem kl (hM:2 ^ k.bits=M) (hx:evo t x=some (.int k i)) (hy:evo t y=some (.int k j)) (hk:k.signed=false) (a b:Nat) (ha:i=a) (hb:j=b) (h:a+b<M):
 Ev G P ⟨dst, .binOp .add T x y U,ty,pos,after,g⟩ t H (.int k ((a+b:Nat):Int)):=by
 have:=lV (G:=G) (P:=P) (H:=H) (dst:=dst) (ty:=ty) (pos:=pos) (after:=after) (g:=g) (T:=T) (U:=U) M hM hx hy hk a b ha hb
 rwa [Nat.mod_eq_of_lt h]at this
theorem wU (hM:2 ^ k.bits=M) (hx:evo t x=some (.int k i)) (hy:evo t y=some (.int k j)) (hk:k.signed=false) (a b:Nat) (ha:i=a) (hb:j=b):
 Ev G P ⟨dst, .binOp .mul T x y U,ty,pos,after,g⟩ t H (.int k (((a*b) % M:Nat):Int)):=by subst hM;exact IF hx hy hk a b ha hb
theorem qv (hM:2 ^ k.bits=M) (hx:evo t x=some (.int k i)) (hy:evo t y=some (.int k j)) (hk:k.signed=false) (a b:Nat) (ha:i=a) (hb:j=b) (hle:b≤a) (hlt:a<M):
 Ev G P ⟨dst, .binOp .sub T x y U,ty,pos,after,g⟩ t H (.int k ((a - b:Nat):Int)):=by subst hM;exact Iy hx hy hk a b ha hb hle hlt
theorem fV (hM:2 ^ k.bits=M) (hx:evo t x=some (.int k i)) (hy:evo t y=some (.int k j)) (hk:k.signed=false) (a b:Nat) (ha:i=a) (hb:j=b) (hla:a<M) (hlb:b<M):
 Ev G P ⟨dst, .binOp .and T x y U,ty,pos,after,g⟩ t H (.int k ((a &&& b:Nat):Int)):=by subst hM;exact IK hx hy hk a b ha hb hla hlb
theorem j0 (hM:2 ^ k.bits=M) (hx:evo t x=some (.int k i)) (hy:evo t y=some (.int k j)) (hk:k.signed=false) (a b:Nat) (ha:i=a) (hb:j=b) (hla:a<M) (hlb:b<M):
 Ev G P ⟨dst, .binOp .or T x y U,ty,pos,after,g⟩ t H (.int k ((a |||b:Nat):Int)):=by subst hM;exact L8 hx hy hk a b ha hb hla hlb
theorem kT (hM:2 ^ k.bits=M) (hx:evo t x=some (.int k i)) (hy:evo t y=some (.int k j)) (hk:k.signed=false) (a b:Nat) (ha:i=a) (hb:j=b) (hla:a<M) (hlb:b<M):
 Ev G P ⟨dst, .binOp .xor T x y U,ty,pos,after,g⟩ t H (.int k ((a ^^^ b:Nat):Int)):=by subst hM;exact Ix hx hy hk a b ha hb hla hlb
theorem oC (hM:2 ^ k.bits=M) (hx:evo t x=some (.int k i)) (hk:k.signed=false) (a:Nat) (ha:i=a) (hla:a<M):
 Ev G P ⟨dst, .unOp .xor T x,ty,pos,after,g⟩ t H (.int k (((M - 1) ^^^ a:Nat):Int)):=by subst hM;exact ID hx hk a ha hla
theorem sY (hM:2 ^ k.bits=M) (hx:evo t x=some (.int k i)) (hy:evo t y=some (.int k' j)) (hk:k.signed=false) (a b:Nat) (ha:i=a) (hb:j=b):
 Ev G P ⟨dst, .binOp .shl T x y U,ty,pos,after,g⟩ t H (.int k ((a*2 ^ b % M:Nat):Int)):=by subst hM;exact Iz hx hy hk a b ha hb
theorem sZ (hM:2 ^ k.bits=M) (hx:evo t x=some (.int k i)) (hy:evo t y=some (.int k' j)) (hk:k.signed=false) (a b:Nat) (ha:i=a) (hb:j=b) (h:a*2 ^ b<M):
 Ev G P ⟨dst, .binOp .shl T x y U,ty,pos,after,g⟩ t H (.int k ((a*2 ^ b:Nat):Int)):=by
 have:=sY (G:=G) (P:=P) (H:=H) (dst:=dst) (ty:=ty) (pos:=pos) (after:=after) (g:=g) (T:=T) (U:=U) M hM hx hy hk a b ha hb
 rwa [Nat.mod_eq_of_lt h]at this
theorem dd {ds:TypeDesc} [hs:Und P T ds] [hd:Und P U (.int k')] (hM:2 ^ k'.bits=M) (hx:evo t x=some (.int k i)) (hk:k'.signed=false) (a:Nat) (ha:i=a):
 Ev G P ⟨dst, .convert T U x,ty,pos,after,g⟩ t H (.int k' ((a % M:Nat):Int)):=by subst hM;exact FU hx hk a ha
theorem cS {ds:TypeDesc} [hs:Und P T ds] [hd:Und P U (.int k')] (hM:2 ^ k'.bits=M) (hx:evo t x=some (.int k i)) (hk:k'.signed=false) (a:Nat) (ha:i=a) (h:a<M):
 Ev G P ⟨dst, .convert T U x,ty,pos,after,g⟩ t H (.int k' ((a:Nat):Int)):=by
 have:=dd (G:=G) (P:=P) (H:=H) (dst:=dst) (ty:=ty) (pos:=pos) (after:=after) (g:=g) (T:=T) (U:=U) (k':=k') M hM hx hk a ha
 rwa [Nat.mod_eq_of_lt h]at this
end
theorem iP {l:List Oper}{T E:TypeId}{x:Operand}{lo hi:Option Operand}{s:SV}{α:Type}{e:Enc α}{xs:List α}{bb:Nat}{z:Value}(F:cG) (hx:evo t x=some s.val) [hF:Sl F s e xs] [hT:Und P T (.slice E)] [hE:Inf P E e.sz bb z] [hs:Sl H s e xs]
 (a b:Nat) (hlo:match lo with|none=> a=0|some o=> ∃k j,evo t o=some (.int k j)∧j=(a:Int)) (hhi:match hi with|none=> b=xs.length|some o=> ∃k j,evo t o=some (.int k j)∧j=(b:Int)) (h1:a≤b) (h2:b≤xs.length) (hd:fX N dst=true)
 (hk:∀s':SV,Sl F s' e ((xs.take b).drop a)→O G P N ops l Q (put t dst s'.val) H):O G P N ops (⟨dst, .slice T x lo hi none,ty,pos,after,none⟩::l) Q t H:=
 EN (yC hx a b hlo hhi h1 h2) hd (hk _ (Sl.cut hF h1 h2))
end
class fH {α:Type}(e:Enc α) (v:Value) (x:outParam α):Prop where
 out:e.v x=v
instance {n:Nat}:fH eB (.int .u8 ((n:Nat):Int)) n:=⟨rfl⟩
instance {i:Int}:fH eI (.int .i64 i) i:=⟨rfl⟩
instance {s:ByteArray}:fH eS (.string s) s:=⟨rfl⟩
instance {s:SV}:fH eSV s.val s:=⟨rfl⟩
class kK {α:Type}(e:Enc α) (x:α) (v:outParam Value):Prop where
 out:e.v x=v
instance {n:Nat}:kK eB n (.int .u8 (n:Int)):=⟨rfl⟩
instance {i:Int}:kK eI i (.int .i64 i):=⟨rfl⟩
instance {s:ByteArray}:kK eS s (.string s):=⟨rfl⟩
instance {s:SV}:kK eSV s s.val:=⟨rfl⟩
section
variable {G:cM}{P:Program}{N:Nat}{Q:fY}{t:Tm}{H:cG}{ops:Array Oper}{dst:Option Tmp}{ty:TypeId}{pos:String}{after:Array Edge}{g:Option (Nat×Bool)}
theorem cZ {T E:TypeId}{sz bb:Nat}{z:Value}{α:Type}(e:Enc α) [hT:Und P T (.slice E)] [hE:Inf P E sz bb z] (hsz:sz=e.sz):
 St G P ⟨dst, .buildSlice T 0 #[],ty,pos,after,g⟩ t H (fun u H'=> ∃s:SV,u=s.val∧H'=Row s e []::H):=by
 subst hsz
 exact dp e [] (by simp only[sF,Enc.parts]) rfl (ck)
theorem dW {T E:TypeId}{sz bb:Nat}{z:Value}{v1:Value}{x1:Operand}{α:Type}(e:Enc α) {y1:α} [hT:Und P T (.slice E)] [hE:Inf P E sz bb z] (hx1:evo t x1=some v1) [hv1:fH e v1 y1] (hsz:sz=e.sz):
 St G P ⟨dst, .buildSlice T 1 #[(0,x1)],ty,pos,after,g⟩ t H (fun u H'=> ∃s:SV,u=s.val∧H'=Row s e [y1]::H):=by
 subst hsz
 exact dp e [y1] (by simp only[sF,Enc.parts,hx1,hv1.out]) rfl (ck)
theorem mi {T E:TypeId}{sz bb:Nat}{z:Value}{v1 v2:Value}{x1 x2:Operand}{α:Type}(e:Enc α) {y1 y2:α} [hT:Und P T (.slice E)] [hE:Inf P E sz bb z] (hx1:evo t x1=some v1) (hx2:evo t x2=some v2) [hv1:fH e v1 y1] [hv2:fH e v2 y2] (hsz:sz=e.sz):
 St G P ⟨dst, .buildSlice T 2 #[(0,x1),(1,x2)],ty,pos,after,g⟩ t H (fun u H'=> ∃s:SV,u=s.val∧H'=Row s e [y1,y2]::H):=by
 subst hsz
 exact dp e [y1,y2] (by simp only[sF,Enc.parts,hx1,hx2,hv1.out,hv2.out]) rfl (ck)
theorem ve {T E:TypeId}{sz bb:Nat}{z:Value}{v1 v2 v3 v4:Value}{x1 x2 x3 x4:Operand}{α:Type}(e:Enc α) {y1 y2 y3 y4:α} [hT:Und P T (.slice E)] [hE:Inf P E sz bb z] (hx1:evo t x1=some v1) (hx2:evo t x2=some v2) (hx3:evo t x3=some v3) (hx4:evo t x4=some v4) [hv1:fH e v1 y1] [hv2:fH e v2 y2] [hv3:fH e v3 y3] [hv4:fH e v4 y4] (hsz:sz=e.sz):
 St G P ⟨dst, .buildSlice T 4 #[(0,x1),(1,x2),(2,x3),(3,x4)],ty,pos,after,g⟩ t H (fun u H'=> ∃s:SV,u=s.val∧H'=Row s e [y1,y2,y3,y4]::H):=by
 subst hsz
 exact dp e [y1,y2,y3,y4] (by simp only[sF,Enc.parts,hx1,hx2,hx3,hx4,hv1.out,hv2.out,hv3.out,hv4.out]) rfl (ck)
theorem C8 {T E:TypeId}{sz bb:Nat}{z:Value}{v1 v2 v3 v4 v5:Value}{x1 x2 x3 x4 x5:Operand}{α:Type}(e:Enc α) {y1 y2 y3 y4 y5:α} [hT:Und P T (.slice E)] [hE:Inf P E sz bb z] (hx1:evo t x1=some v1) (hx2:evo t x2=some v2) (hx3:evo t x3=some v3) (hx4:evo t x4=some v4) (hx5:evo t x5=some v5) [hv1:fH e v1 y1] [hv2:fH e v2 y2] [hv3:fH e v3 y3] [hv4:fH e v4 y4] [hv5:fH e v5 y5] (hsz:sz=e.sz):
 St G P ⟨dst, .buildSlice T 5 #[(0,x1),(1,x2),(2,x3),(3,x4),(4,x5)],ty,pos,after,g⟩ t H (fun u H'=> ∃s:SV,u=s.val∧H'=Row s e [y1,y2,y3,y4,y5]::H):=by
 subst hsz
 exact dp e [y1,y2,y3,y4,y5] (by simp only[sF,Enc.parts,hx1,hx2,hx3,hx4,hx5,hv1.out,hv2.out,hv3.out,hv4.out,hv5.out]) rfl (ck)
theorem dq {T:TypeId}{x:Operand}{s:SV}{i sz:Nat}{v:Value}{α:Type}{e:Enc α}{xs:List α}(hx:evo t x=some (.pointer (s.elt sz i 0))) [hT:One P T] [hs:Sl H s e xs] (hsz:e.sz=sz) (ha:e.agg=false) (y:α) (hy:xs[i]? =some y) [hv:kK e y v]:
 Ev G P ⟨dst, .load T x,ty,pos,after,g⟩ t H v:=by subst hsz;exact hv.out ▸ uX hx ha y hy
theorem lU {T:TypeId}{x:Operand}{s:SV}{i sz:Nat}{v:Value}{α:Type}{e:Enc α}{xs:List α}(hx:evo t x=some (.pointer (s.elt sz i 0))) [hT:Agg P T sz] [hs:Sl H s e xs] (hsz:e.sz=sz) (ha:e.agg=true) (y:α) (hy:xs[i]? =some y) [hv:kK e y v]:
 Ev G P ⟨dst, .load T x,ty,pos,after,g⟩ t H v:=by subst hsz;exact hv.out ▸ uE hx ha y hy
theorem dA {T:TypeId}{x:Operand}{s:SV}{i o sz:Nat}{v:Value}{α:Type}{e:Enc α}{xs:List α}(hx:evo t x=some (.pointer (s.elt sz i o))) [hT:One P T] [hs:Sl H s e xs] (hsz:e.sz=sz) (y:α) (hy:xs[i]? =some y) (hc:(e.f y)[o]? =some v):
 Ev G P ⟨dst, .load T x,ty,pos,after,g⟩ t H v:=by subst hsz;exact sn hx y hy hc
theorem IJ {x:Operand}{T E:TypeId}{s:SV}{α:Type}{e:Enc α}{xs:List α}(hx:evo t x=some s.val) [hT:Und P T (.slice E)] [hs:Sl H s e xs]:
 Ev G P ⟨dst, .call ⟨.builtin .len, #[x], #[T]⟩,ty,pos,after,g⟩ t H (.int .i64 ((xs.length:Nat):Int)):=Lg (T:=T) hx rfl
theorem yF {x:Operand}{T:TypeId}{s:ByteArray}(hx:evo t x=some (.string s)) [hT:Und P T .string]:
 Ev G P ⟨dst, .call ⟨.builtin .len, #[x], #[T]⟩,ty,pos,after,g⟩ t H (.int .i64 ((s.size:Nat):Int)):=Ap (T:=T) hx rfl
theorem ef {T E:TypeId}{x:Operand}{lo hi:Option Operand}{s:SV}{α:Type}{e:Enc α}{xs:List α}{sz bb:Nat}{z:Value}(hx:evo t x=some s.val) [hT:Und P T (.slice E)] [hE:Inf P E sz bb z] [hs:Sl H s e xs] (hsz:e.sz=sz)
 (l h:Nat) (hlo:match lo with|none=> l=0|some o=> ∃k j,evo t o=some (.int k j)∧j=(l:Int)) (hhi:match hi with|none=> h=xs.length|some o=> ∃k j,evo t o=some (.int k j)∧j=(h:Int)) (h1:l≤h) (h2:h≤xs.length):
 Ev G P ⟨dst, .slice T x lo hi none,ty,pos,after,g⟩ t H (s.cut sz l h).val:=by subst hsz;exact yC hx l h hlo hhi h1 h2
theorem Bz {T U:TypeId}{x y:Operand}{a b:Int}(hx:evo t x=some (.int .i64 a)) (hy:evo t y=some (.int .i64 b)) (c:Int) (h:IntKind.i64.wrap (a - b)=c):
 Ev G P ⟨dst, .binOp .sub T x y U,ty,pos,after,g⟩ t H (.int .i64 c):=
 fun ρ hρ w _=> by simp[execOp,hρ _ _ hx,hρ _ _ hy,eqGuard,binOp,Op.intArith,h]
theorem tc {T U:TypeId}{x y:Operand}{a b:Int}(hx:evo t x=some (.int .i64 a)) (hy:evo t y=some (.int .i64 b)) (c:Int) (h:IntKind.i64.wrap (a+b)=c):
 Ev G P ⟨dst, .binOp .add T x y U,ty,pos,after,g⟩ t H (.int .i64 c):=
 fun ρ hρ w _=> by simp[execOp,hρ _ _ hx,hρ _ _ hy,eqGuard,binOp,Op.intArith,h]
theorem cW {id:Nat}{l:List Oper}(hm:P.follows .mixedOrders=true) (h:An G P N l.toArray pQ (at_ H) Q l.length (Array.replicate l.length false) t H):W G P N (.region id l.toArray true) Q t H:=di hm pQ (at_ H) h
theorem yG {x:Operand}{i:Nat}{vs:Array Value}{v:Value}(hx:evo t x=some (.tuple vs)) (hv:vs.toList[i]? =some v):
 Ev G P ⟨dst, .extract x i,ty,pos,after,g⟩ t H v:=Aq hx (by rw[←Array.getElem?_toList];exact hv)
theorem DI {T T2 E:TypeId}{x y:Operand}{s s2:SV}{bb a b:Nat}{z:Value}{α:Type}{e:Enc α}{xs ys:List α}{C:Hp→cG}(hx:evo t x=some (s.cut e.sz a b).val) (hy:evo t y=some s2.val) [hT:Und P T (.slice E)] [hE:Inf P E e.sz bb z] [hf:o9 H s e xs C] [hs:Sl H s2 e ys] (h1:a≤b) (h2:b≤xs.length) (m:Nat) (hm:m=min ys.length (b - a)):
 St G P ⟨dst, .call ⟨.builtin .copy, #[x,y], #[T,T2]⟩,ty,pos,after,g⟩ t H (fun u H'=> u= .int .i64 ((m:Nat):Int)∧H'=C (Row s e (xs.take a++ys.take m++xs.drop (a+m)))):=
 fun ρ hρ w hw=> by
  obtain⟨q1,q2,q3⟩:=hs.get hw
  have hmy:m≤ys.length:=a8
  have hlen:(Builtin.lenOf s2.val).run P w= .ok ys.length w:=by simp[Builtin.lenOf,SV.val,q1]
  have hfirst:(Builtin.firstCells e.sz m s2.val).run P w= .ok (e.all (ys.take m)).toArray w:=by
   rcases q3 with⟨rfl,_⟩|⟨bk,off,C0,E0,fz,h4,hb,_,h6⟩
   ·simp at hmy;subst hmy
    rw[nv];rfl
   ·have:=eO (P:=P) (o:=off) hb (e.all (ys.take m)) (fun j v hv=> h6 j v (by
     rw[e.all_take]at hv
     have hj:=(Yk.1 hv).1
     rw[Yg]at hj
     rwa [List.getElem?_take_of_lt (a8)]at hv))
    rw[e.all_length,Yg,Nat.min_eq_left hmy]at this
    simp only[Builtin.firstCells,SV.val,h4,this]
  obtain⟨L1,M,L2,hl,hM,hB⟩:=hf.split hw
  have hsz:(e.all (ys.take m)).length=m*e.sz:=by rw[e.all_length,Yg,Nat.min_eq_left hmy]
  have hmn:Nat.min ys.length (b - a)=m:=hm.symm
  by_cases hm0:m=0
  ·subst hm0
   have he:xs.take a++ys.take 0++xs.drop (a+0)=xs:=aj
   rw[he]
   have hr:(execOp ρ ⟨dst, .call ⟨.builtin .copy, #[x,y], #[T,T2]⟩,ty,pos,after,g⟩).run P w= .ok (.value (.int .i64 ((0:Nat):Int))) w:=by
    simp only[execOp,resolve,invoke,builtin,List.map_toArray,List.map_cons,List.map_nil,hρ _ _ hx,hρ _ _ hy,Sem.run_bind,Sem.run_pure,Result.andThen_ok,Builtin.copy_,List.getElem?_toArray,Xb,Xc,df (T:=T),SV.val,SV.cut]
    have hlen':=hlen
    have hfirst':=hfirst
    simp only[SV.val]at hlen' hfirst'
    simp only[hlen',Result.andThen_ok,hmn,dZ (T:=E) (s:=e.sz),hfirst']
    cases h:(if s.c=a then s.a else Option.map (fun x=> x.add (a*e.sz)) s.a) <;> simp[iL,storeCells,goInt]
   rw[hr]
   exact⟨C (Row s e xs),⟨hw.1,_,hB _ M hM,hl⟩,rfl,rfl⟩
  ·rcases hM with⟨rfl,rfl,rfl⟩|⟨bk,C0,E0,fz,g1,g2,g3,rfl,g5,g6,g7⟩
   ·simp at h2;omega
   ·have hbw:w.heap[bk]? =some (.cells C0 E0 fz):=hl.at_ (bk, .cells C0 E0 fz) (aj)
    have hca:¬(s.c=a):=a8
    have hfit:a*e.sz+(e.all (ys.take m)).length≤C0.size:=by
     rw[hsz,g5,←Nat.add_mul];exact Nat.mul_le_mul_right _ (a8)
    have hst:=fS (P:=P) (o:=a*e.sz) (e.all (ys.take m)) 0 C0 w hbw (fun j _ h=> g6.free j (a8)) (a8) (e.all_one _)
    have hr:(execOp ρ ⟨dst, .call ⟨.builtin .copy, #[x,y], #[T,T2]⟩,ty,pos,after,g⟩).run P w= .ok (.value (.int .i64 ((m:Nat):Int))) (er w bk (.cells (fk C0 (a*e.sz) (e.all (ys.take m))) E0 fz)):=by
     simp only[execOp,resolve,invoke,builtin,List.map_toArray,List.map_cons,List.map_nil,hρ _ _ hx,hρ _ _ hy,Sem.run_bind,Sem.run_pure,Result.andThen_ok,Builtin.copy_,List.getElem?_toArray,Xb,Xc,df (T:=T),SV.val,SV.cut]
     have hlen':=hlen
     have hfirst':=hfirst
     simp only[SV.val]at hlen' hfirst'
     simp only[hlen',Result.andThen_ok,hmn,dZ (T:=E) (s:=e.sz),hfirst',hca,↓reduceIte,g1,Option.map_some,iK,Nat.zero_add,Sem.run_bind]
     simp only[Nat.add_zero]at hst
     rw[hst]
     rfl
    rw[hr]
    refine⟨C (Row s e (xs.take a++ys.take m++xs.drop (a+m))),⟨⟨hw.1.os,hw.1.tape,hw.1.output⟩,_,hB _ [(bk, .cells (fk C0 (a*e.sz) (e.all (ys.take m))) E0 fz)] (.inr ⟨bk,_,E0,fz,g1,?_,g3,rfl,by rw[fT,g5],by rw[fT];exact g6,?_⟩),?_⟩,rfl,rfl⟩
    ·simp;omega
    ·intro j u hu
     rw[gO _ _ _ _ hfit,hsz]
     rw[e.all_append,e.all_append]at hu
     have hla:(e.all (xs.take a)).length=a*e.sz:=bI
     by_cases hj:j<a*e.sz
     ·rw[if_neg (a8)]
      rw[Yf,Yv (a8),e.all_take,List.getElem?_take_of_lt hj]at hu
      exact g7 j u hu
     ·by_cases hj2:j<a*e.sz+m*e.sz
      ·rw[if_pos (a8)]
       rw[Yf,Yu (a8),hla,Yv (a8)]at hu
       exact hu
      ·rw[if_neg (a8)]
       rw[Yu (by rw[Ya,hla,hsz];omega),Ya,hla,hsz,e.all_drop,Xh,Nat.add_mul]at hu
       exact g7 j u (by rw[←hu];congr 1;omega)
    ·have:=kD.change (w':=er w bk (.cells (fk C0 (a*e.sz) (e.all (ys.take m))) E0 fz)) (L1:=L1) (L2:=L2) (b:=bk) (o:= .cells C0 E0 fz) (o':= .cells (fk C0 (a*e.sz) (e.all (ys.take m))) E0 fz) (bA) (gu hbw) (fun i hi _=> fI hi)
     simpa using this
theorem AY {T T2 E:TypeId}{x y:Operand}{s s2:SV}{sz bb a b:Nat}{z:Value}{α:Type}{e:Enc α}{xs ys:List α}{C:Hp→cG}(hx:evo t x=some (s.cut sz a b).val) (hy:evo t y=some s2.val) [hT:Und P T (.slice E)] [hE:Inf P E sz bb z] [hf:o9 H s e xs C] [hs:Sl H s2 e ys] (hsz:e.sz=sz) (h1:a≤b) (h2:b≤xs.length) (m:Nat) (hm:m=min ys.length (b - a)):
 St G P ⟨dst, .call ⟨.builtin .copy, #[x,y], #[T,T2]⟩,ty,pos,after,g⟩ t H (fun u H'=> u= .int .i64 ((m:Nat):Int)∧H'=C (Row s e (xs.take a++ys.take m++xs.drop (a+m)))):=by subst hsz;exact DI hx hy h1 h2 m hm
theorem xG {T E:TypeId}{x:Operand}{s:SV}{xs:List Nat}{C:Hp→cG} [hT:Und P T (.slice E)] [hE:Und P E (.int .u8)] (hx:evo t x=some s.val) [hf:o9 H s eB xs C] (hne:xs≠ []):
 St G P ⟨dst, .convert T T x,ty,pos,after,g⟩ t H (fun u H'=> u=s.val∧H'=C (Row s eB xs)):=
 fun ρ hρ w hw=> by
  obtain⟨L1,M,L2,hl,hM,hB⟩:=hf.split hw
  rcases hM with⟨rfl,rfl,rfl⟩|⟨b,C0,E0,fz,g1,g2,g3,rfl,g5,g6,g7⟩
  ·exact absurd rfl hne
  ·have hbw:w.heap[b]? =some (.cells C0 E0 fz):=hl.at_ (b, .cells C0 E0 fz) (aj)
   obtain⟨fz',hfz,hok⟩:∃fz',(if fz.1==fz.2 then(C0.size,C0.size+1)else(min fz.1 C0.size,max fz.2 (C0.size+1)))=fz'∧Okf C0.size fz':=by
    refine⟨_,rfl,?_⟩
    by_cases h:fz.1=fz.2
    ·rw[if_pos (by simp[h])];exact .inr (Nat.le_refl _)
    ·rw[if_neg (by simp[h])]
     rcases g6 with h6|h6
     ·exact absurd h6 h
     ·exact .inr (by simp only[];omega)
   have hfr:w.freeze ⟨b,C0.size,none⟩ 1=er w b (.cells C0 E0 fz'):=by
    unfold World.freeze er
    rw[if_neg (ag)]
    congr 1
    apply Array.ext_getElem?
    intro i
    simp only[Array.getElem?_modify,Array.getElem?_setIfInBounds]
    have hlt:=(Array.getElem?_eq_some_iff.1 hbw).1
    by_cases hi:b=i
    ·subst hi
     rw[if_pos rfl,if_pos rfl,if_pos hlt,hbw,Option.map_some]
     rw[←hfz]
    ·rw[if_neg hi,if_neg hi]
   have hsh:w.shape? b=some (E0,C0.size):=by unfold World.shape?;rw[hbw]
   have hr:(execOp ρ ⟨dst, .convert T T x,ty,pos,after,g⟩).run P w= .ok (.value s.val) (er w b (.cells C0 E0 fz')):=by
    simp only[execOp,convert,hρ _ _ hx,Sem.run_bind,df (T:=T),df (T:=E),Result.andThen_ok,SV.val,g1,BEq.rfl,markStringish,run_shape,hsh,run_freeze,hfr,Sem.run_pure]
   rw[hr]
   refine⟨C (Row s eB xs),⟨⟨hw.1.os,hw.1.tape,hw.1.output⟩,_,hB _ [(b, .cells C0 E0 fz')] (.inr ⟨b,C0,E0,fz',g1,g2,g3,rfl,g5,hok,g7⟩),?_⟩,rfl,rfl⟩
   have:=kD.change (w':=er w b (.cells C0 E0 fz')) (L1:=L1) (L2:=L2) (b:=b) (o:= .cells C0 E0 fz) (o':= .cells C0 E0 fz') (bA) (gu hbw) (fun i hi _=> fI hi)
   simpa using this
theorem SC.out {f:FuncId}{args:List Value}{K:Value→cG→Prop}(h:SC G P f args H (fun v H'=> ∃H'',cK H' H''∧K v H'')):SC G P f args H K:=
 ⟨h.enter,fun w hw=> (h.call w hw).mono fun e w' he=> by
  cases e with
  |returned v=> obtain⟨H',h1,H'',h2,h3⟩:=he;exact⟨H'',h2.sat h1,h3⟩
  |_=> exact he.elim⟩
class Rem (H:cG) {ι α:Type}(K:ι→α→Hp) (i:ι) (a:outParam α) (R:outParam cG):Prop where
 out:∀L,Sep H L→∃L',L'.Perm L∧Sep (K i a::R) L'
instance Rem.head {H:cG}{ι α:Type}{K:ι→α→Hp}{i:ι}{a:α}:Rem (K i a::H) K i a H:=⟨fun L h=> ⟨L, .refl L,h⟩⟩
instance Rem.tail {A:Hp}{H R:cG}{ι α:Type}{K:ι→α→Hp}{i:ι}{a:α} [h:Rem H K i a R]:Rem (A::H) K i a (A::R):=
 ⟨fun L hL=> by
  obtain⟨L1,L2,rfl,h1,h2⟩:=hL
  obtain⟨L',hp,M1,M2,rfl,h3,h4⟩:=h.out L2 h2
  refine⟨M1++(L1++M2),?_,M1,L1++M2,rfl,h3,L1,M2,rfl,h1,h4⟩
  rw[←Yf]
  refine((List.perm_append_comm.append_right M2).trans ?_)
  rw[Yf]
  exact hp.append_left L1⟩
theorem Rem.sat {R:cG}{ι α:Type}{K:ι→α→Hp}{i:ι}{a:α}(h:Rem H K i a R) {w:World}(hw:Sat G w H):Sat G w (K i a::R):=
 hw.imp fun L hL=> let ⟨L',h1,h2⟩:=h.out L hL;⟨L',h2, .inr h1⟩
theorem SC.rem {f:FuncId}{args:List Value}{K:Value→cG→Prop}{R:cG}{ι α:Type}{K':ι→α→Hp}{i:ι}{a:α} [h:Rem H K' i a R] (hc:SC G P f args (K' i a::R) K):SC G P f args H K:=
 hc.heap fun _ hw=> h.sat hw
def dH (F:cG):Hp:=fun L=> Sep F L
theorem SC.star {f:FuncId}{args:List Value}{K:Value→cG→Prop}{F:cG}(h:SC G P f args (F++H) K):SC G P f args (dH F::H) K:=
 h.heap fun w hw=> by
  obtain⟨hs,L,⟨L1,L2,rfl,h1,h2⟩,hl⟩:=hw
  refine⟨hs,_,?_,hl⟩
  clear hl hs h
  revert h1
  generalize hF:F=F'
  clear hF
  induction F' generalizing L1 with
  |nil=> intro h1;obtain rfl:L1= []:=h1;exact h2
  |cons A F ih=>
   intro h1
   obtain⟨M1,M2,rfl,h3,h4⟩:=h1
   exact⟨M1,M2++L2,aj,h3,ih M2 h4⟩
theorem pn {F:cG}:∀{L:nD},Sep (F++H) L→∃L1 L2,L=L1++L2∧Sep F L1∧Sep H L2:=by
 induction F with
 |nil=> intro L hL;exact⟨[],L,rfl,rfl,hL⟩
 |cons A F ih=>
  intro L hL
  obtain⟨M1,M2,rfl,h1,h2⟩:=hL
  obtain⟨N1,N2,rfl,h3,h4⟩:=ih h2
  exact⟨M1++N1,N2,aj,⟨M1,N1,rfl,h1,h3⟩,h4⟩
theorem cK.star {F:cG}{H':cG}(h:cK H H'):cK (F++H) (dH F::H'):=fun L hL=> by
 obtain⟨L1,L2,rfl,h1,h2⟩:=pn hL
 obtain⟨L',M,h3,h4⟩:=h L2 h2
 exact⟨L1++L',M,⟨L1,L',rfl,h1,h3⟩,by rw[Yf];exact h4.append_left L1⟩
class pI (H:cG) (s:SV) {α:outParam Type}(e:outParam (Enc α)) (xs:outParam (List α)) (R:outParam cG):Prop where
 out:∀L,Sep H L→∃L',L'.Perm L∧Sep (Row s e xs::R) L'
instance pI.head {H:cG}{s:SV}{α:Type}{e:Enc α}{xs:List α}:pI (Row s e xs::H) s e xs H:=⟨fun L h=> ⟨L, .refl L,h⟩⟩
instance pI.tail {A:Hp}{H R:cG}{s:SV}{α:Type}{e:Enc α}{xs:List α} [h:pI H s e xs R]:pI (A::H) s e xs (A::R):=
 ⟨fun L hL=> by
  obtain⟨L1,L2,rfl,h1,h2⟩:=hL
  obtain⟨L',hp,M1,M2,rfl,h3,h4⟩:=h.out L2 h2
  refine⟨M1++(L1++M2),?_,M1,L1++M2,rfl,h3,L1,M2,rfl,h1,h4⟩
  rw[←Yf]
  refine((List.perm_append_comm.append_right M2).trans ?_)
  rw[Yf]
  exact hp.append_left L1⟩
theorem cK.rem {R H':cG}{ι α:Type}{K:ι→α→Hp}{i:ι}{a:α}(hr:Rem H K i a R) (h:cK (K i a::R) H'):cK H H':=fun L hL=> by
 obtain⟨L',h1,h2⟩:=hr.out L hL
 obtain⟨L'',M,h3,h4⟩:=h L' h2
 exact⟨L'',M,h3,h4.trans h1⟩
theorem jr {R H':cG}{s:SV}{α:Type}{e:Enc α}{xs:List α}(hr:pI H s e xs R) (h:cK (Row s e xs::R) H'):cK H H':=fun L hL=> by
 obtain⟨L',h1,h2⟩:=hr.out L hL
 obtain⟨L'',M,h3,h4⟩:=h L' h2
 exact⟨L'',M,h3,h4.trans h1⟩
theorem J6 {R H':cG}{b:Nat}{l:List Value} [hr:Rem H Vr b l R] (h:cK R H'):cK H (Vr b l::H'):=cK.rem hr h.keep
theorem cK.row {R H':cG}{s:SV}{α:Type}{e:Enc α}{xs:List α} [hr:pI H s e xs R] (h:cK R H'):cK H (Row s e xs::H'):=jr hr h.keep
theorem cK.nilRow {H':cG}{α:Type}{e:Enc α}(h:cK H H'):cK H (Row SV.nil e []::H'):=cK.add (.inl ⟨rfl,rfl,rfl⟩) h
def Wr (b:Nat) (xs:List Nat):Hp:=fun L=> ∃s:SV,Sep [Vr b [s.val],Row s eB xs] L
theorem J5 {R H':cG}{b:Nat}{xs:List Nat} [hr:Rem H Wr b xs R] (h:cK R H'):cK H (Wr b xs::H'):=cK.rem hr h.keep
theorem Gz {R R' H':cG}{b:Nat}{s:SV}{xs:List Nat} [hr:Rem H Vr b [s.val] R] [hr2:pI R s eB xs R'] (h:cK R' H'):cK H (Wr b xs::H'):=by
 refine cK.rem hr (cK.trans (H':=Vr b [s.val]::Row s eB xs::R') ?_ ?_)
 ·exact cK.keep (jr hr2 cK.refl)
 ·intro L hL
  obtain⟨L1,L2,rfl,h1,L3,L4,rfl,h3,h4⟩:=hL
  obtain⟨L',M,h5,h6⟩:=h L4 h4
  exact⟨(L1++L3)++L',M,⟨L1++L3,L',rfl,⟨s,L1,L3,rfl,h1,L3, [],aj,h3,rfl⟩,h5⟩,bB⟩
theorem Gy {R H':cG}{b:Nat} [hr:Rem H Vr b [.slice none 0 0] R] (h:cK R H'):cK H (Wr b []::H'):=by
 refine cK.rem hr fun L hL=> ?_
 obtain⟨L1,L2,rfl,h1,h2⟩:=hL
 obtain⟨L',M,h5,h6⟩:=h L2 h2
 exact⟨L1++L',M,⟨L1,L',rfl,⟨SV.nil,L1, [],aj,h1, [], [],rfl, .inl ⟨rfl,rfl,rfl⟩,rfl⟩,h5⟩,by rw[Yf];exact h6.append_left L1⟩
theorem tD {f:FuncId}{args:List Value}{K:Value→cG→Prop}{R:cG}{b:Nat}{xs:List Nat}(hr:Rem H Wr b xs R) (h:∀s:SV,SC G P f args (Vr b [s.val]::Row s eB xs::R) K):SC G P f args H K:=
 SC.heap (H':=Wr b xs::R) ⟨(h SV.nil).enter,fun w hw=> by
  obtain⟨hs,L,⟨L1,L2,rfl,⟨s,M1,M2,rfl,h1,M3,M4,rfl,h2,h3⟩,h4⟩,hl⟩:=hw
  obtain rfl:M4= []:=h3
  exact(h s).call w ⟨hs,_,⟨M1,M3++L2,aj,h1,M3,L2,rfl,h2,h4⟩,hl⟩⟩ fun _ hw=> hr.sat hw
def Ms (ops:Array Oper) (loud:Nat→Bool) (listed:Array Bool) (i:Nat):Bool:=
 (List.range ops.size).all fun j=> !(loud j && listed.getD j false) ||match ops[j]? with
   |some oj=> oj.after.all fun e=> !(Region.binds .any e && e.on==i)
   |none=> true
theorem cI {loud:Nat→Bool}{listed:Array Bool}{i:Nat}(h:Ms ops loud listed i=false):¬rJ ops loud i listed:=by
 intro hl
 rw[←Bool.not_eq_true]at h
 refine h (List.all_eq_true.2 fun j _=> ?_)
 cases hlj:loud j with
 |false=> rfl
 |true=>
  cases hli:listed.getD j false with
  |false=> rfl
  |true=>
   cases hj:ops[j]? with
   |none=> rfl
   |some oj=>
    simp only[Bool.and_self,Bool.not_true,Bool.false_or]
    refine Array.all_eq_true'.2 fun e he=> ?_
    cases hb:Region.binds .any e with
    |false=> rfl
    |true=> have:=hl j oj hj hlj hli e he hb;simp[this]
theorem JZ {R:cG}{b:Nat}{xs:List Nat}(hr:Rem H Wr b xs R) {w:World}(hw:Sat G w H):∃s:SV,Sat G w (Vr b [s.val]::Row s eB xs::R):=by
 obtain⟨hs,L,⟨L1,L2,rfl,⟨s,M1,M2,rfl,h1,M3,M4,rfl,h2,h3⟩,h4⟩,hl⟩:=hr.sat hw
 obtain rfl:M4= []:=h3
 exact⟨s,hs,_,⟨M1,M3++L2,aj,h1,M3,L2,rfl,h2,h4⟩,hl⟩
theorem EK {l:List Oper}{R:cG}(b:Nat) {xs:List Nat} [hr:Rem H Wr b xs R] (h:∀s:SV,O G P N ops l Q t (Vr b [s.val]::Row s eB xs::R)):O G P N ops l Q t H:=
 ⟨fun a w ha hw=> let ⟨s,hs⟩:=JZ hr hw;(h s).go a w ha hs⟩
theorem wg {c:Code}{H':cG}(hs:cK H H') (h:W G P N c Q t H'):W G P N c Q t H:=⟨fun a w ha hw=> h.go a w ha (hs.sat hw)⟩
theorem dE {l:List Oper}{H':cG}(hs:cK H H') (h:O G P N ops l Q t H'):O G P N ops l Q t H:=⟨fun a w ha hw=> h.go a w ha (hs.sat hw)⟩
end
section
variable {G:cM}{P:Program}{N:Nat}{Q:fY}{t:Tm}{H:cG}{ops:Array Oper}
def Ex {β:Type}(F:β→cG):Hp:=fun L=> ∃s,Sep (F s) L
theorem tB:∀{F:cG}{R:cG}{L1 L2:nD},Sep F L1→Sep R L2→Sep (F++R) (L1++L2):=by
 intro F
 induction F with
 |nil=> intro R L1 L2 h1 h2;obtain rfl:L1= []:=h1;exact h2
 |cons A F ih=>
  intro R L1 L2 h1 h2
  obtain⟨M1,M2,rfl,h3,h4⟩:=h1
  rw[Yf]
  exact⟨M1,M2++L2,rfl,h3,ih h4 h2⟩
theorem DS {R:cG}{ι α β:Type}{K:ι→α→Hp}{i:ι}{a:α}{F:β→cG}(hK:K i a=Ex F) (hr:Rem H K i a R) {w:World}(hw:Sat G w H):∃s,Sat G w (F s++R):=by
 obtain⟨hs,L,⟨L1,L2,rfl,h1,h2⟩,hl⟩:=hr.sat hw
 rw[hK]at h1
 obtain⟨s,h1⟩:=h1
 exact⟨s,hs,_,tB h1 h2,hl⟩
theorem Bt {R:cG}{ι α β:Type}{K:ι→α→Hp}{i:ι}{a:α}{F:β→cG}(hK:K i a=Ex F) (s:β):cK (F s++R) (K i a::R):=fun L hL=> by
 obtain⟨L1,L2,rfl,h1,h2⟩:=pn hL
 exact⟨L1++L2, [],⟨L1,L2,rfl,by rw[hK];exact⟨s,h1⟩,h2⟩,aj⟩
def Rd (b:Nat) (p:List Nat×Nat):Hp:=Ex fun s:SV=> [Vr b [.int .i64 ((p.2:Nat):Int), .int .i64 ((p.1.length:Nat):Int),s.val],Row s eB p.1]
theorem DR {R:cG}{b k:Nat}{xs:List Nat}(hr:Rem H Rd b (xs,k) R) {w:World}(hw:Sat G w H):∃s:SV,Sat G w (Vr b [.int .i64 ((k:Nat):Int), .int .i64 ((xs.length:Nat):Int),s.val]::Row s eB xs::R):=
 DS (K:=Rd) rfl hr hw
theorem rk {l:List Oper}{R:cG}(b:Nat) {k:Nat}{xs:List Nat} [hr:Rem H Rd b (xs,k) R] (h:∀s:SV,O G P N ops l Q t (Vr b [.int .i64 ((k:Nat):Int), .int .i64 ((xs.length:Nat):Int),s.val]::Row s eB xs::R)):O G P N ops l Q t H:=
 ⟨fun a w ha hw=> let ⟨s,hs⟩:=DR hr hw;(h s).go a w ha hs⟩
theorem xS {f:FuncId}{args:List Value}{K:Value→cG→Prop}{R:cG}{b k:Nat}{xs:List Nat}(hr:Rem H Rd b (xs,k) R) (h:∀s:SV,SC G P f args (Vr b [.int .i64 ((k:Nat):Int), .int .i64 ((xs.length:Nat):Int),s.val]::Row s eB xs::R) K):SC G P f args H K:=
 ⟨(h SV.nil).enter,fun w hw=> let ⟨s,hs⟩:=DR hr hw;(h s).call w hs⟩
theorem J8 {R H':cG}{b:Nat}{p:List Nat×Nat} [hr:Rem H Rd b p R] (h:cK R H'):cK H (Rd b p::H'):=cK.rem hr h.keep
theorem GA {R R' H':cG}{b k:Nat}{s:SV}{xs:List Nat}{n:Int} [hr:Rem H Vr b [.int .i64 ((k:Nat):Int), .int .i64 n,s.val] R] [hr2:pI R s eB xs R'] (hn:n=((xs.length:Nat):Int)) (h:cK R' H'):cK H (Rd b (xs,k)::H'):=by
 subst hn
 refine cK.rem hr (cK.trans (H':=Vr b [.int .i64 ((k:Nat):Int), .int .i64 ((xs.length:Nat):Int),s.val]::Row s eB xs::R') ?_ ?_)
 ·exact cK.keep (jr hr2 cK.refl)
 ·exact(Bt (K:=Rd) (i:=b) (a:=(xs,k)) rfl s).trans h.keep
class Glb (G:outParam cM) (H:cG):Prop where
 err:∀i,i<24→∀L,Sep H L→∃E fz,(i,Obj.cells #[G.err i] E fz)∈L
 blk:∀i,i<24→∀L,Sep H L→∃C E,(G.eb i,Obj.cells C E (0,0))∈L
 inj:∀a b,G.eb a=G.eb b→G.eo a=G.eo b→a=b
instance Glb.tail {A:Hp} [h:Glb G H]:Glb G (A::H):=
 ⟨fun i hi L hL=> by obtain⟨L1,L2,rfl,_,h2⟩:=hL;obtain⟨E,fz,hm⟩:=h.err i hi L2 h2;exact⟨E,fz,Yx _ hm⟩,
  fun i hi L hL=> by obtain⟨L1,L2,rfl,_,h2⟩:=hL;obtain⟨C,E,hm⟩:=h.blk i hi L2 h2;exact⟨C,E,Yx _ hm⟩,h.inj⟩
class jh (i:Nat):Prop where
 out:i<24
instance {i:Nat} [h:jh i] [hg:Glb G H]:dh H i [G.err i]:=⟨hg.err i h.out⟩
instance {i:Nat} [h:jh i] [hg:Glb G H]:ze H (G.eb i):=⟨hg.blk i h.out⟩
end
instance:jh 0:=⟨ag⟩
instance:jh 1:=⟨ag⟩
instance:jh 2:=⟨ag⟩
instance:jh 3:=⟨ag⟩
instance:jh 4:=⟨ag⟩
instance:jh 5:=⟨ag⟩
instance:jh 6:=⟨ag⟩
instance:jh 7:=⟨ag⟩
instance:jh 8:=⟨ag⟩
instance:jh 9:=⟨ag⟩
instance:jh 10:=⟨ag⟩
instance:jh 11:=⟨ag⟩
instance:jh 12:=⟨ag⟩
instance:jh 13:=⟨ag⟩
instance:jh 14:=⟨ag⟩
instance:jh 15:=⟨ag⟩
instance:jh 16:=⟨ag⟩
instance:jh 17:=⟨ag⟩
instance:jh 18:=⟨ag⟩
instance:jh 19:=⟨ag⟩
instance:jh 20:=⟨ag⟩
instance:jh 21:=⟨ag⟩
instance:jh 22:=⟨ag⟩
instance:jh 23:=⟨ag⟩
class Tab (H:cG) (b:Nat) (l:outParam (List Nat)):Prop where
 out:∀L,Sep H L→∃E fz,(b,Obj.cells (l.map fun n=> Value.int .u32 ((n:Nat):Int)).toArray E fz)∈L
instance Tab.tail {A:Hp}{H:cG}{b:Nat}{l:List Nat} [h:Tab H b l]:Tab (A::H) b l:=
 ⟨fun L hL=> aQ⟩
instance {H:cG}{b:Nat}{l:List Nat} [h:Tab H b l]:dh H b (l.map fun n=> Value.int .u32 ((n:Nat):Int)):=⟨h.out⟩
instance:fH eB (.int .u8 1) 1:=⟨rfl⟩
instance:fH eB (.int .u8 2) 2:=⟨rfl⟩
instance:fH eB (.int .u8 3) 3:=⟨rfl⟩
instance:fH eB (.int .u8 4) 4:=⟨rfl⟩
instance:fH eB (.int .u8 99) 99:=⟨rfl⟩
instance:fH eB (.int .u8 100) 100:=⟨rfl⟩
instance:fH eB (.int .u8 110) 110:=⟨rfl⟩
instance:fH eB (.int .u8 118) 118:=⟨rfl⟩
instance:fH eB (.int .u8 120) 120:=⟨rfl⟩
section
variable {G:cM}{P:Program}{t:Tm}{H:cG}{dst:Option Tmp}{ty:TypeId}{pos:String}{after:Array Edge}{g:Option (Nat×Bool)}
theorem DE {F:cG}{L:nD}(h:Sep (dH F::H) L):∃L1 L2,L=L1++L2∧Sep F L1∧Sep H L2:=h
instance Sl.star {F:cG}{s:SV}{α:Type}{e:Enc α}{xs:List α} [h:Sl F s e xs]:Sl (dH F::H) s e xs:=
 ⟨fun L hL=> by
  obtain⟨L1,L2,rfl,h1,_⟩:=DE hL
  exact(h.out L1 h1).mono fun x hx=> Yy _ hx⟩
class mL (H:cG) (A:Hp) (R:outParam cG):Prop where
 out:∀L,Sep H L→∃L',L'.Perm L∧Sep (A::R) L'
instance mL.head {A:Hp}:mL (A::H) A H:=⟨fun L h=> ⟨L, .refl L,h⟩⟩
instance mL.tail {A B:Hp}{R:cG} [h:mL H A R]:mL (B::H) A (B::R):=
 ⟨fun L hL=> by
  obtain⟨L1,L2,rfl,h1,h2⟩:=hL
  obtain⟨L',hp,M1,M2,rfl,h3,h4⟩:=h.out L2 h2
  refine⟨M1++(L1++M2),?_,M1,L1++M2,rfl,h3,L1,M2,rfl,h1,h4⟩
  rw[←Yf]
  refine((List.perm_append_comm.append_right M2).trans ?_)
  rw[Yf]
  exact hp.append_left L1⟩
theorem eV {A:Hp}{R H':cG}(hr:mL H A R) (h:cK (A::R) H'):cK H H':=fun L hL=> by
 obtain⟨L',h1,h2⟩:=hr.out L hL
 obtain⟨L'',M,h3,h4⟩:=h L' h2
 exact⟨L'',M,h3,h4.trans h1⟩
theorem ie {A:Hp}{R H':cG} [hr:mL H A R] (h:cK R H'):cK H (A::H'):=eV hr h.keep
theorem jH {H':cG}(h:cK H H'):cK H (dH []::H'):=cK.add rfl h
theorem qQ {F R R' H':cG}{s:SV}{α:Type}{e:Enc α}{xs:List α} [hr:pI H s e xs R] [hr2:mL R (dH F) R'] (h:cK R' H'):cK H (dH (Row s e xs::F)::H'):=by
 refine jr hr (cK.trans (H':=Row s e xs::dH F::R') ?_ ?_)
 ·exact cK.keep (eV hr2 cK.refl)
 ·intro L hL
  obtain⟨L1,L2,rfl,h1,L3,L4,rfl,h3,h4⟩:=hL
  obtain⟨L',M,h5,h6⟩:=h L4 h4
  exact⟨(L1++L3)++L',M,⟨L1++L3,L',rfl,⟨L1,L3,rfl,h1,h3⟩,h5⟩,bB⟩
theorem v7 {F F' R R' H':cG} [hr:mL H (dH F) R] [hr2:mL R (dH F') R'] (h:cK R' H'):cK H (dH (dH F::F')::H'):=by
 refine eV hr (cK.trans (H':=dH F::dH F'::R') ?_ ?_)
 ·exact cK.keep (eV hr2 cK.refl)
 ·intro L hL
  obtain⟨L1,L2,rfl,h1,L3,L4,rfl,h3,h4⟩:=hL
  obtain⟨L',M,h5,h6⟩:=h L4 h4
  exact⟨(L1++L3)++L',M,⟨L1++L3,L',rfl,⟨L1,L3,rfl,h1,h3⟩,h5⟩,bB⟩
theorem kC {T U:TypeId}{x y:Operand}{xs ys:List Nat}{c:ByteArray}(hx:evo t x=some (.string (dO xs))) (hy:evo t y=some (.string c)) (hb:∀n∈xs,n<256) (hc:cF c=ys):Ev G P ⟨dst, .binOp .neq T x y U,ty,pos,after,g⟩ t H (.bool (!decide (xs=ys))):=by
 have:=uC (G:=G) (P:=P) (H:=H) (dst:=dst) (ty:=ty) (pos:=pos) (after:=after) (g:=g) (T:=T) (U:=U) hx hy
 rwa [dK hb,hc]at this
end
section
variable {G:cM}{P:Program}{N:Nat}{Q:fY}{t:Tm}{H:cG}{ops:Array Oper}{dst:Option Tmp}{ty:TypeId}{pos:String}{after:Array Edge}{g:Option (Nat×Bool)}
def Mp (r:Nat) (ks:List (List Nat)):Hp:=fun L=> ∃(es:List MapEntry) (clock:Nat) (qs:List ByteArray),L= [(r, .map es.toArray clock)]∧es.map (·.key)=qs.map Value.string∧qs.map cF=ks
theorem nV (k:ByteArray):∀(ks:List ByteArray) (es:List MapEntry) (i:Nat),es.map (·.key)=ks.map Value.string→
 (cF k∈ks.map cF∧∃p,Instr.findNow .string (.string k) es i=some (some p))∨(cF k ∉ ks.map cF∧Instr.findNow .string (.string k) es i=some none)
 | [],es,i,h=> by
  obtain rfl:es= []:=bY
  exact .inr ⟨aj,rfl⟩
 |q::ks, [],i,h=> bC
 |q::ks,e::es,i,h=> by
  simp only[List.map_cons,List.cons.injEq]at h
  obtain⟨h1,h2⟩:=h
  have hn:Instr.findNow .string (.string k) (e::es) i=match Instr.sameNow .string (.string k) (.string q)with
   |some true=> some (some (i,e.val))
   |some false=> Instr.findNow .string (.string k) es (i+1)
   |none=> none:=by rw[←h1];rfl
  rw[hn]
  by_cases hk:k=q
  ·subst hk
   have hb:(k==k)=true:=(MapKept.bytes_beq k k).2 rfl
   left
   simp only[Instr.sameNow,hb]
   exact⟨aj,_,rfl⟩
  ·have hb:(k==q)=false:=by
    cases h:(k==q)with
    |false=> rfl
    |true=> exact absurd ((MapKept.bytes_beq k q).1 h) hk
   have hbb:¬cF k=cF q:=fun h=> hk (iH.1 h)
   simp only[Instr.sameNow,hb]
   rcases nV k ks es (i+1) h2 with⟨h3,h4⟩|⟨h3,h4⟩
   ·exact .inl ⟨Xa _ h3,h4⟩
   ·exact .inr ⟨fun h=> by
     rcases List.mem_cons.1 h with h|h
     ·exact hbb h
     ·exact h3 h,h4⟩
theorem mA (s:ByteArray):MapKept.IsKey .string (.string s):=by simp[MapKept.IsKey]
theorem zu {T K E:TypeId}{x:Operand}{k:IntKind}{i:Int} [hT:Und P T (.map K E)] (hx:evo t x=some (.int k i)):
 St G P ⟨dst, .makeMap T (some x),ty,pos,after,g⟩ t H (fun u H'=> ∃r,u= .map (some r)∧H'=Mp r []::H):=
 fun ρ hρ w hw=> by
  have hr:(execOp ρ ⟨dst, .makeMap T (some x),ty,pos,after,g⟩).run P w= .ok (.value (.map (some w.heap.size))) {w with heap:=w.heap.push (.map #[] 0)}:=by
   simp only[execOp,Option.map_some,Instr.makeMap,hρ _ _ hx,Sem.run_bind,df (T:=T),Result.andThen_ok,asInt,asIntOf,Sem.run_pure,run_newObj]
  rw[hr]
  exact⟨_,(hw.alloc _).cons fun _ hM=> ⟨[],0, [],hM,rfl,rfl⟩,w.heap.size,rfl,rfl⟩
theorem C7 {T K E:TypeId}{x y:Operand}{r sz bb:Nat}{z:Value}{ks:List (List Nat)}{s:ByteArray}{C:Hp→cG} [hT:Und P T (.map K E)] [hK:Und P K .string] [hE:Inf P E sz bb z] (hx:evo t x=some (.map (some r))) (hy:evo t y=some (.string s)) [hf:Foc H Mp r ks C]:
 St G P ⟨dst, .lookup T x y true,ty,pos,after,g⟩ t H (fun u H'=> (∃v,u= .tuple #[v, .bool (decide (cF s∈ks))])∧H'=H):=
 fun ρ hρ w hw=> by
  obtain⟨hS,L,hL,hl⟩:=hw
  obtain⟨L1,M,L2,rfl,⟨es,clock,qs,rfl,hk,rfl⟩,hB⟩:=hf.foc _ hL
  have hb:w.heap[r]? =some (.map es.toArray clock):=hl.at_ (r, .map es.toArray clock) (aj)
  have hg:=MapKept.run_getObj_map (P:=P) hb
  have hck:=MapKept.run_checkKey (P:=P) (w:=w) hK.out (mA s)
  rcases nV s qs es 0 hk with⟨h1,⟨i,v⟩,h2⟩|⟨h1,h2⟩
  ·have h3:=MapKept.run_findKey (P:=P) (w:=w) hK.out h2
   have hr:(execOp ρ ⟨dst, .lookup T x y true,ty,pos,after,g⟩).run P w= .ok (.value (.tuple #[v, .bool true])) w:=by
    simp only[execOp,hρ _ _ hx,hρ _ _ hy,Instr.lookup,Sem.run_bind,df (T:=T),Result.andThen_ok,hg,Sem.run_pure,hck,h3,↓reduceIte]
   rw[hr]
   exact⟨H,⟨hS,_,hL,hl⟩,⟨v,by simp[h1]⟩,rfl⟩
  ·have h3:=MapKept.run_findKey (P:=P) (w:=w) hK.out h2
   have hr:(execOp ρ ⟨dst, .lookup T x y true,ty,pos,after,g⟩).run P w= .ok (.value (.tuple #[z, .bool false])) w:=by
    simp only[execOp,hρ _ _ hx,hρ _ _ hy,Instr.lookup,Sem.run_bind,df (T:=T),Result.andThen_ok,hg,Sem.run_pure,hck,h3,kx (T:=E),↓reduceIte]
   rw[hr]
   exact⟨H,⟨hS,_,hL,hl⟩,⟨z,by simp[h1]⟩,rfl⟩
theorem wm {T K E:TypeId}{x y v:Operand}{r:Nat}{u:Value}{ks:List (List Nat)}{s:ByteArray}{C:Hp→cG} [hT:Und P T (.map K E)] [hK:Und P K .string] (hx:evo t x=some (.map (some r))) (hy:evo t y=some (.string s)) (hv:evo t v=some u) [hf:Foc H Mp r ks C] (hno:cF s ∉ ks):
 St G P ⟨dst, .mapUpdate T x y v,ty,pos,after,g⟩ t H (fun u H'=> u=undef∧H'=C (Mp r (ks++ [cF s]))):=
 fun ρ hρ w hw=> by
  obtain⟨hS,L,hL,hl⟩:=hw
  obtain⟨L1,M,L2,rfl,⟨es,clock,qs,rfl,hk,rfl⟩,hB⟩:=hf.foc _ hL
  have hb:w.heap[r]? =some (.map es.toArray clock):=hl.at_ (r, .map es.toArray clock) (aj)
  have hg:=MapKept.run_getObj_map (P:=P) hb
  have hck:=MapKept.run_checkKey (P:=P) (w:=w) hK.out (mA s)
  rcases nV s qs es 0 hk with⟨h1,_⟩|⟨h1,h2⟩
  ·exact absurd h1 hno
  ·have h3:=MapKept.run_findKey (P:=P) (w:=w) hK.out h2
   have hso:=MapKept.run_setObj_map (P:=P) (.map (es.toArray.push {key:= .string s,val:=u,born:=clock}) (clock+1)) hb
   have hr:(execOp ρ ⟨dst, .mapUpdate T x y v,ty,pos,after,g⟩).run P w= .ok .skip (er w r (.map (es.toArray.push {key:= .string s,val:=u,born:=clock}) (clock+1))):=by
    simp only[execOp,hρ _ _ hx,hρ _ _ hy,hρ _ _ hv,Instr.mapUpdate,Sem.run_bind,df (T:=T),Result.andThen_ok,hg,hck,h3,hso,Sem.run_pure]
    rfl
   rw[hr]
   refine⟨C (Mp r (qs.map cF++ [cF s])),⟨⟨hS.os,hS.tape,hS.output⟩,_,hB _ [(r, .map (es.toArray.push {key:= .string s,val:=u,born:=clock}) (clock+1))] ⟨es++ [{key:= .string s,val:=u,born:=clock}],clock+1,qs++ [s],aj,by simp[hk],aj⟩,?_⟩,rfl,rfl⟩
   have:=kD.change (w':=er w r (.map (es.toArray.push {key:= .string s,val:=u,born:=clock}) (clock+1))) (L1:=L1) (L2:=L2) (b:=r) (o:= .map es.toArray clock) (o':= .map (es.toArray.push {key:= .string s,val:=u,born:=clock}) (clock+1)) (bA) (gu hb) (fun i hi _=> fI hi)
   simpa using this
theorem cK.mp {R H':cG}{r:Nat}{ks:List (List Nat)} [hr:Rem H Mp r ks R] (h:cK R H'):cK H (Mp r ks::H'):=cK.rem hr h.keep
theorem pJ {o:Oper}{j d:Nat}{want:Bool}{a:Act}(ha:Fr N t a) (hg:o.guard=some (j,want)) (hj:(ops[j]?).bind (·.dst)=some d) (hb:look t d=some undef):
 Region.wanted o (yielded ops a.tmps)=false:=by
 have h1:a.tmps[d]? =some undef:=ha.look _ _ hb
 have h2:yielded ops a.tmps j=none:=by
  unfold yielded
  rw[hj]
  simp[h1,undef]
 unfold Region.wanted
 rw[hg]
 simp only[h2]
 rfl
theorem wI {l:List Oper}{op:Op}{j d:Nat}{want:Bool}(hj:(ops[j]?).bind (·.dst)=some d) (hv:look t d=some undef) (hd:fX N dst=true)
 (hk:O G P N ops l Q (put t dst undef) H):O G P N ops (⟨dst,op,ty,pos,after,some (j,want)⟩::l) Q t H:=by
 refine⟨fun a w ha hw=> ?_⟩
 unfold wpList
 rw[pJ (o:=⟨dst,op,ty,pos,after,some (j,want)⟩) ha rfl hj hv]
 rw[if_neg (aj)]
 exact hk.go _ _ (ha.put hd undef) hw
end
end Go.Sx
