import Derived.Test.YtjhdcheijnegnaaGreatDoorQ0
import Derived.Laws.BitsLemmas
import Derived.Laws.Bits64
import Derived.Laws.Cells
import Derived.Laws.Append
set_option linter.all false
set_option maxHeartbeats 0
namespace Go.Sx
open Go
section
variable {T U:TypeId}{a b i j:Int}{ats:Array TypeId}{ds:TypeDesc}{k k':IntKind}{v:Value}{x y:Operand}
class Und (P:Program) (T:TypeId) (d:outParam TypeDesc):Prop where
 out:P.underlying T=some d
class Inf (P:Program) (T:TypeId) (size bytes:outParam Nat) (zero:outParam Value):Prop where
 out:∃i,P.info? T=some i∧i.size=size∧i.bytes=bytes∧i.zero=some zero
class One (P:Program) (T:TypeId):Prop where
 out:∃d,P.underlying T=some d∧(match d with| .struct _| .array _ _=>false|_=>true)=true
class Agg (P:Program) (T:TypeId) (size:outParam Nat):Prop where
 out:∃d i,P.underlying T=some d∧(match d with| .struct _| .array _ _=>true|_=>false)=true∧P.info? T=some i∧i.size=size
class Fld (P:Program) (T:TypeId) (k:Nat) (off:outParam Nat):Prop where
 out:∃fs f i,P.underlying T=some (.struct fs)∧fs[k]? =some f∧f.offset=off∧P.info? f.type=some i∧i.size≠0
section
variable {G:cJ}{P:Program}{t:Tm}{H:cG}{dst:Option Tmp}{ty:TypeId}{pos:String}{after:Array Edge}{g:Option (Nat×Bool)}
theorem J4 (hx:evo t x=some v):Ev G P ⟨dst,.move x,ty,pos,after,g⟩ t H v:=
 fun ρ hρ w _=>by simp[execOp,hρ x v hx]
theorem vj (hx:evo t x=some v):Ev G P ⟨dst,.assign x,ty,pos,after,g⟩ t H v:=
 fun ρ hρ w _=>by simp[execOp,hρ x v hx]
theorem A9 {i:Nat}{vs:Array Value}(hx:evo t x=some (.tuple vs)) (hv:vs[i]? =some v):
 Ev G P ⟨dst,.extract x i,ty,pos,after,g⟩ t H v:=
 fun ρ hρ w _=>by simp[execOp,hρ _ _ hx,Instr.extract,hv]
theorem yi {a:Addr}(hx:evo t x=some (.pointer (some a))):Ev G P ⟨dst,.nilCheck x,ty,pos,after,g⟩ t H (.pointer (some a)):=
 fun ρ hρ w _=>by simp[execOp,hρ _ _ hx]
theorem ie {z:Int}(h: -9223372036854775808≤z∧z≤9223372036854775807):IntKind.i64.wrap z=z:=by
 rw[IntKind.wrap_i64];omega
theorem wE (hx:evo t x=some (.int .i64 a)) (hy:evo t y=some (.int .i64 b)) (h: -9223372036854775808≤a+b∧a+b≤9223372036854775807):
 Ev G P ⟨dst,.binOp .add T x y U,ty,pos,after,g⟩ t H (.int .i64 (a+b)):=
 fun ρ hρ w _=>bu
theorem Gj (hx:evo t x=some (.int .i64 a)) (hy:evo t y=some (.int .i64 b)) (h: -9223372036854775808≤a-b∧a-b≤9223372036854775807):
 Ev G P ⟨dst,.binOp .sub T x y U,ty,pos,after,g⟩ t H (.int .i64 (a-b)):=
 fun ρ hρ w _=>bu
theorem Ml (hx:evo t x=some (.int .i64 a)) (hy:evo t y=some (.int .i64 b)) (h: -9223372036854775808≤a*b∧a*b≤9223372036854775807):
 Ev G P ⟨dst,.binOp .mul T x y U,ty,pos,after,g⟩ t H (.int .i64 (a*b)):=
 fun ρ hρ w _=>bu
theorem Gk (hx:evo t x=some (.int .i64 a)) (h: -9223372036854775808≤ -a∧ -a≤9223372036854775807):
 Ev G P ⟨dst,.unOp .neg T x,ty,pos,after,g⟩ t H (.int .i64 (-a)):=
 fun ρ hρ w _=>by simp[execOp,hρ _ _ hx,Op.unary,Op.intArith,ie h]
theorem Mm (hx:evo t x=some (.int k a)) (hy:evo t y=some (.int k b)):
 Ev G P ⟨dst,.binOp .lss T x y U,ty,pos,after,g⟩ t H (.bool (decide (a<b))):=
 fun ρ hρ w _=>aO
theorem Mn (hx:evo t x=some (.int k a)) (hy:evo t y=some (.int k b)):
 Ev G P ⟨dst,.binOp .leq T x y U,ty,pos,after,g⟩ t H (.bool (decide (a≤b))):=
 fun ρ hρ w _=>aO
theorem Mq (hx:evo t x=some (.int k a)) (hy:evo t y=some (.int k b)):
 Ev G P ⟨dst,.binOp .gtr T x y U,ty,pos,after,g⟩ t H (.bool (decide (b<a))):=
 fun ρ hρ w _=>aO
theorem Mr (hx:evo t x=some (.int k a)) (hy:evo t y=some (.int k b)):
 Ev G P ⟨dst,.binOp .geq T x y U,ty,pos,after,g⟩ t H (.bool (decide (b≤a))):=
 fun ρ hρ w _=>aO
theorem Ms (hx:evo t x=some (.int k a)) (hy:evo t y=some (.int k b)):
 Ev G P ⟨dst,.binOp .eql T x y U,ty,pos,after,g⟩ t H (.bool (decide (a=b))):=
 fun ρ hρ w _=>by
  have e:(a==b)=decide (a=b):=by rw[U4];simp
  simp[execOp,hρ _ _ hx,hρ _ _ hy,eqGuard,binOp,Op.intCmp,e]
theorem Mk (hx:evo t x=some (.int k a)) (hy:evo t y=some (.int k b)):
 Ev G P ⟨dst,.binOp .neq T x y U,ty,pos,after,g⟩ t H (.bool (decide (a≠b))):=
 fun ρ hρ w _=>by
  have e:(a !=b)=decide (a≠b):=by rw[U4];simp
  simp only[execOp,hρ _ _ hx,hρ _ _ hy,eqGuard,binOp,Op.intCmp];simp[e]
theorem Mj {b:Bool}(hx:evo t x=some (.bool b)):Ev G P ⟨dst,.unOp .not T x,ty,pos,after,g⟩ t H (.bool !b):=
 fun ρ hρ w _=>by simp[execOp,hρ _ _ hx,Op.unary]
theorem jh (hk:k.signed=false) (n:Nat):k.wrap (n:Int)=((n%2^k.bits:Nat):Int):=by
 cases k <;> simp_all [IntKind.wrap,IntKind.signed,IntKind.bits] <;> omega
theorem g9 (m n:Nat):BitVec.ofInt m (n:Int)=BitVec.ofNat m n:=by
 simp
theorem J9 (hx:evo t x=some (.int k i)) (hy:evo t y=some (.int k j)) (hk:k.signed=false) (a b:Nat) (ha:i=a) (c:j=b):
 Ev G P ⟨dst,.binOp .add T x y U,ty,pos,after,g⟩ t H (.int k (((a+b)%2^k.bits:Nat):Int)):=
 fun ρ hρ w _=>by
  have e:k.wrap ((a:Int)+(b:Int))=(((a+b)%2^k.bits:Nat):Int):=by rw[←jh hk];congr 1
  simp only[execOp,hρ _ _ hx,hρ _ _ hy,eqGuard,binOp,Op.intArith,ha,c];simp[e]
theorem J3 (hx:evo t x=some (.int k i)) (hy:evo t y=some (.int k j)) (hk:k.signed=false) (a b:Nat) (ha:i=a) (c:j=b):
 Ev G P ⟨dst,.binOp .mul T x y U,ty,pos,after,g⟩ t H (.int k (((a*b)%2^k.bits:Nat):Int)):=
 fun ρ hρ w _=>by
  have e:k.wrap ((a:Int)*(b:Int))=(((a*b)%2^k.bits:Nat):Int):=by rw[←jh hk,Int.natCast_mul]
  simp only[execOp,hρ _ _ hx,hρ _ _ hy,eqGuard,binOp,Op.intArith,ha,c];simp[e]
theorem IZ (hx:evo t x=some (.int k i)) (hy:evo t y=some (.int k j)) (hk:k.signed=false) (a b:Nat) (ha:i=a) (d:j=b) (c:b≤a) (hlt:a<2^k.bits):
 Ev G P ⟨dst,.binOp .sub T x y U,ty,pos,after,g⟩ t H (.int k ((a-b:Nat):Int)):=
 fun ρ hρ w _=>by
  have e:k.wrap ((a:Int)-(b:Int))=((a-b:Nat):Int):=by
   rw[←Int.ofNat_sub c,jh hk,Xt a8]
  simp only[execOp,hρ _ _ hx,hρ _ _ hy,eqGuard,binOp,Op.intArith,ha,d];simp only[Sem.run_bind,Sem.run_pure,e,ne_eq,not_true_eq_false,↓reduceIte];rfl
theorem J8 (hx:evo t x=some (.int k i)) (hy:evo t y=some (.int k j)) (hk:k.signed=false) (a b:Nat) (ha:i=a) (f:j=b) (d:a<2^k.bits) (c:b<2^k.bits):
 Ev G P ⟨dst,.binOp .and T x y U,ty,pos,after,g⟩ t H (.int k ((a &&& b:Nat):Int)):=
 fun ρ hρ w _=>by
  have e:(BitVec.ofInt k.bits (a:Int) &&& BitVec.ofInt k.bits (b:Int)).toNat=a &&& b:=by
   rw[g9,g9,BitVec.toNat_and,BitVec.toNat_ofNat,BitVec.toNat_ofNat,Xt d,Xt c]
  have h:k.wrap ((a &&& b:Nat):Int)=((a &&& b:Nat):Int):=by rw[jh hk,Xt (Nat.and_lt_two_pow _ c)]
  simp only[execOp,hρ _ _ hx,hρ _ _ hy,eqGuard,binOp,Op.intBits,ha,f];simp only[Sem.run_bind,Sem.run_pure,e,h,ne_eq,not_true_eq_false,↓reduceIte];rfl
theorem Mi (hx:evo t x=some (.int k i)) (hy:evo t y=some (.int k j)) (hk:k.signed=false) (a b:Nat) (ha:i=a) (f:j=b) (d:a<2^k.bits) (c:b<2^k.bits):
 Ev G P ⟨dst,.binOp .or T x y U,ty,pos,after,g⟩ t H (.int k ((a |||b:Nat):Int)):=
 fun ρ hρ w _=>by
  have e:(BitVec.ofInt k.bits (a:Int) |||BitVec.ofInt k.bits (b:Int)).toNat=a |||b:=by
   rw[g9,g9,BitVec.toNat_or,BitVec.toNat_ofNat,BitVec.toNat_ofNat,Xt d,Xt c]
  have h:k.wrap ((a |||b:Nat):Int)=((a |||b:Nat):Int):=by rw[jh hk,Xt (X8 d c)]
  simp only[execOp,hρ _ _ hx,hρ _ _ hy,eqGuard,binOp,Op.intBits,ha,f];simp only[Sem.run_bind,Sem.run_pure,e,h,ne_eq,not_true_eq_false,↓reduceIte];rfl
theorem IY (hx:evo t x=some (.int k i)) (hy:evo t y=some (.int k j)) (hk:k.signed=false) (a b:Nat) (ha:i=a) (f:j=b) (d:a<2^k.bits) (c:b<2^k.bits):
 Ev G P ⟨dst,.binOp .xor T x y U,ty,pos,after,g⟩ t H (.int k ((a ^^^ b:Nat):Int)):=
 fun ρ hρ w _=>by
  have e:(BitVec.ofInt k.bits (a:Int) ^^^ BitVec.ofInt k.bits (b:Int)).toNat=a ^^^ b:=by
   rw[g9,g9,BitVec.toNat_xor,BitVec.toNat_ofNat,BitVec.toNat_ofNat,Xt d,Xt c]
  have h:k.wrap ((a ^^^ b:Nat):Int)=((a ^^^ b:Nat):Int):=by rw[jh hk,Xt (Q0 d c)]
  simp only[execOp,hρ _ _ hx,hρ _ _ hy,eqGuard,binOp,Op.intBits,ha,f];simp only[Sem.run_bind,Sem.run_pure,e,h,ne_eq,not_true_eq_false,↓reduceIte];rfl
theorem J2 (hx:evo t x=some (.int k i)) (hk:k.signed=false) (a:Nat) (ha:i=a) (c:a<2^k.bits):
 Ev G P ⟨dst,.unOp .xor T x,ty,pos,after,g⟩ t H (.int k (((2^k.bits-1) ^^^ a:Nat):Int)):=
 fun ρ hρ w _=>by
  have hm:(k.max:Int)=((2^k.bits-1:Nat):Int):=by cases k <;> simp_all [IntKind.max,IntKind.signed,IntKind.bits]
  have b:2^k.bits-1<2^k.bits:=by have:=U5 k.bits;omega
  have e:(BitVec.ofInt k.bits ((2^k.bits-1:Nat):Int) ^^^ BitVec.ofInt k.bits (a:Int)).toNat=(2^k.bits-1) ^^^ a:=by
   rw[g9,g9,BitVec.toNat_xor,BitVec.toNat_ofNat,BitVec.toNat_ofNat,Xt c,Xt b]
  have d:k.wrap (((2^k.bits-1) ^^^ a:Nat):Int)=(((2^k.bits-1) ^^^ a:Nat):Int):=by rw[jh hk,Xt (Q0 b c)]
  simp only[execOp,hρ _ _ hx,Op.unary,Op.intBits,ha,hk,hm];simp only[Sem.run_bind,Sem.run_pure,e,d,Xp,↓reduceIte];rfl
theorem du (hx:evo t x=some (.int k i)) (hy:evo t y=some (.int k' j)) (a b:Nat) (ha:i=a) (f:j=b) (c:b≤k.bits):
 Ev G P ⟨dst,.binOp .shr T x y U,ty,pos,after,g⟩ t H (.int k ((a/2^b:Nat):Int)):=
 fun ρ hρ w _=>by
  have e:((a:Int).fdiv (2^b))=((a/2^b:Nat):Int):=by
   rw[Int.fdiv_eq_ediv_of_nonneg _ (by exact Int.pow_nonneg ae)];simp
  simp only[execOp,hρ _ _ hx,hρ _ _ hy,eqGuard,binOp,Op.shift,ha,f];have d:¬((b:Int)<0):=a8;simp[Vk c,e,d]
theorem J0 (hx:evo t x=some (.int k i)) (hy:evo t y=some (.int k' j)) (hk:k.signed=false) (a b:Nat) (ha:i=a) (f:j=b):
 Ev G P ⟨dst,.binOp .shl T x y U,ty,pos,after,g⟩ t H (.int k ((a*2^b%2^k.bits:Nat):Int)):=
 fun ρ hρ w _=>by
  have e:k.wrap ((a:Int)*2^min b k.bits)=((a*2^b%2^k.bits:Nat):Int):=by
   rw[show((a:Int)*2^min b k.bits)=((a*2^min b k.bits:Nat):Int)from ak,jh hk];congr 1;rcases Nat.le_total b k.bits with h|h
   ·rw[Vk h]
   ·rw[Nat.min_eq_right h];obtain⟨c,rfl⟩:=Nat.le.dest h;rw[Ud];rw[show a*(2^k.bits*2^c)=a*2^c*2^k.bits by rw[Ug (2^k.bits),Un]];simp
  simp only[execOp,hρ _ _ hx,hρ _ _ hy,eqGuard,binOp,Op.shift,ha,f];have d:¬((b:Int)<0):=a8;simp[e,d]
theorem Gn {S D:TypeId} [hs:Und P S ds] [hd:Und P D (.int k')] (hx:evo t x=some (.int k i)) (hk:k'.signed=false) (a:Nat) (ha:i=a):
 Ev G P ⟨dst,.convert S D x,ty,pos,after,g⟩ t H (.int k' ((a%2^k'.bits:Nat):Int)):=
 fun ρ hρ w _=>by
  have e:(underlying S).run P w=.ok ds w:=by simp[underlying,hs.out]
  have b:(underlying D).run P w=.ok (.int k') w:=by simp[underlying,hd.out]
  simp only[execOp,convert,hρ _ _ hx,ha,Sem.run_bind,e,b,Result.andThen_ok];cases ds <;> simp[Conv.intToInt,jh hk]
theorem dL {S D:TypeId} [hs:Und P S ds] [hd:Und P D (.int .i64)] (hx:evo t x=some (.int k i)) (h: -9223372036854775808≤i∧i≤9223372036854775807):
 Ev G P ⟨dst,.convert S D x,ty,pos,after,g⟩ t H (.int .i64 i):=
 fun ρ hρ w _=>by
  have e:(underlying S).run P w=.ok ds w:=by simp[underlying,hs.out]
  have a:(underlying D).run P w=.ok (.int .i64) w:=by simp[underlying,hd.out]
  simp only[execOp,convert,hρ _ _ hx,Sem.run_bind,e,a,Result.andThen_ok];cases ds <;> simp[Conv.intToInt,ie h]
theorem fH (hx:evo t x=some (.int k i)) (hy:evo t y=some (.int k j)) (a b:Nat) (ha:i=a) (f:j=b) (hp:0<b) (d:(a:Int)≤k.max):
 Ev G P ⟨dst,.binOp .quo T x y U,ty,pos,after,g⟩ t H (.int k ((a/b:Nat):Int)):=
 fun ρ hρ w _=>by
  have h0:¬((b:Int)=0):=a8;have hd:a/b≤a:=Vs a b;have e:k.wrap ((a:Int).tdiv (b:Int))=((a/b:Nat):Int):=by
   rw[Int.tdiv_eq_ediv_of_nonneg a8,←Int.natCast_ediv];generalize a/b=c at*;cases k <;> simp[IntKind.max,IntKind.signed,IntKind.bits,IntKind.wrap]at d⊢ <;> omega
  simp only[execOp,hρ _ _ hx,hρ _ _ hy,eqGuard,binOp,Op.intDiv,ha,f];simp only[Sem.run_bind,Sem.run_pure,ne_eq,not_true_eq_false,↓reduceIte,h0,e];rfl
theorem kO (hx:evo t x=some (.int k i)) (hy:evo t y=some (.int k j)) (a b:Nat) (ha:i=a) (c:j=b) (hp:0<b):
 Ev G P ⟨dst,.binOp .rem T x y U,ty,pos,after,g⟩ t H (.int k ((a%b:Nat):Int)):=
 fun ρ hρ w _=>by
  have h0:¬((b:Int)=0):=a8;have e:(a:Int).tmod (b:Int)=((a%b:Nat):Int):=by
   rw[Int.tmod_eq_emod_of_nonneg a8];simp
  simp only[execOp,hρ _ _ hx,hρ _ _ hy,eqGuard,binOp,Op.intDiv,ha,c];simp only[Sem.run_bind,Sem.run_pure,ne_eq,not_true_eq_false,↓reduceIte,h0,e];rfl
theorem lr (hx:evo t x=some (.int k a)) (hy:evo t y=some (.int k b)):
 Ev G P ⟨dst,.call ⟨.builtin .min, #[x,y],ats⟩,ty,pos,after,g⟩ t H (.int k (min a b)):=
 fun ρ hρ w _=>by
  have e:(if b<a then b else a)=min a b:=by rw[Int.min_def];split <;> split <;> omega
  simp[execOp,resolve,invoke,builtin,Builtin.min_,Builtin.min2,hρ _ _ hx,hρ _ _ hy,e]
theorem tH (hx:evo t x=some (.int k a)) (hy:evo t y=some (.int k b)):
 Ev G P ⟨dst,.call ⟨.builtin .max, #[x,y],ats⟩,ty,pos,after,g⟩ t H (.int k (max a b)):=
 fun ρ hρ w _=>by
  have e:(if b > a then b else a)=max a b:=by rw[Int.max_def];split <;> split <;> omega
  simp[execOp,resolve,invoke,builtin,Builtin.max_,Builtin.max2,hρ _ _ hx,hρ _ _ hy,e]
end
end
section
variable {C:Array Value}{E T:TypeId}{b n o off s:Nat}{fz:Nat×Nat}{l l' vs:List Value}{o':Obj}{v z:Value}{w:World}{x:Operand}
theorem gu (b o n:Nat):(⟨b,o,none⟩:Addr).add n=⟨b,o+n,none⟩:=by
 unfold Addr.add;split <;> simp_all
theorem mT (h:w.heap[b]? =some (.cells C E fz)):w.cell? ⟨b,o,none⟩=C[o]? :=by
 simp[World.cell?,h]
theorem CR (h:w.heap[b]? =some (.cells C E fz)):w.frozen? ⟨b,o,none⟩=(decide (fz.1≤o)&&decide (o<fz.2)):=by
 simp[World.frozen?,h]
def e7 (w:World) (b:Nat) (o:Obj):World:={w with heap:=w.heap.setIfInBounds b o}
theorem zy (h:w.heap[b]? =some (.cells C E fz)) (v:Value):
 w.setCell ⟨b,o,none⟩ v=e7 w b (.cells (C.setIfInBounds o v) E fz):=by
 unfold World.setCell e7;congr 1;obtain⟨a,c⟩:=Vh.1 h;apply Q3;intro i;rw[Array.getElem?_modify,X6]
 by_cases e:b=i
 ·subst e;simp[a,c]
 ·simp[e]
theorem fB {o:Obj}(h:w.heap[b]? =some o):(e7 w b o').heap[b]? =some o':=by
 have a:=(Vh.1 h).1;simp[e7,a]
theorem eL {i:Nat}(h:i≠b):(e7 w b o').heap[i]? =w.heap[i]? :=by
 simp[e7,Ne.symm h]
theorem uc (w:World) (b:Nat) (o o':Obj):e7 (e7 w b o) b o'=e7 w b o':=by
 simp[e7]
theorem xx {o:Obj}(h:w.heap[b]? =some o):e7 w b o=w:=by
 have:w.heap.setIfInBounds b o=w.heap:=by
  apply Q3;intro i;rw[X6];obtain⟨a,c⟩:=Vh.1 h
  by_cases e:b=i
  ·subst e;simp[a,c]
  ·simp[e]
 unfold e7;rw[this]
def ej (C:Array Value) (o:Nat):List Value→Array Value
 | []=>C
 |v::vs=>ej (C.setIfInBounds o v) (o+1) vs
theorem er (vs:List Value):∀(C:Array Value) (o:Nat),(ej C o vs).size=C.size:=by
 induction vs with
 |nil=>intro C o;rfl
 |cons v vs ih=>intro C o;simp[ej,ih]
theorem fy (vs:List Value):∀(C:Array Value) (o j:Nat),o+vs.length≤C.size→(ej C o vs)[j]? =if o≤j∧j<o+vs.length then vs[j-o]? else C[j]? :=by
 induction vs with
 |nil=>intro C o j _;simp[ej];omega
 |cons v vs ih=>
  intro C o j h;simp only[Yb]at h;simp only[ej,Yb];rw[ih _ _ _ aH]
  by_cases h1:j=o
  ·subst h1;rw[if_neg a8,if_pos a8];simp[show j<C.size from a8]
  ·by_cases h2:o+1≤j∧j<o+1+vs.length
   ·rw[if_pos h2,if_pos a8];rw[show j-o=(j-(o+1))+1 from a8,Xc]
   ·rw[if_neg h2,if_neg a8];simp[Ne.symm h1]
theorem pE (C:Array Value) (o:Nat) (vs:List Value) (h:o+vs.length≤C.size):(ej C o vs).toList=C.toList.take o++vs++C.toList.drop (o+vs.length):=by
 apply Vu;intro j;rw[U7,fy _ _ _ _ h];have hl:C.toList.length=C.size:=ak
 by_cases h1:j<o
 ·rw[if_neg a8,Yf,Yv aH,Xz h1];simp
 ·by_cases h2:j<o+vs.length
  ·rw[if_pos a8,Yf,Yu aH,Yv aH];congr 1;simp;omega
  ·rw[if_neg a8,Yu aH,Xh];simp only[Ya,Yg,U7,hl];congr 1;omega
theorem ez {P:Program}:∀(vs:List Value) (i:Nat) (C:Array Value) (w:World),w.heap[b]? =some (.cells C E fz)→
 (∀j,o+i≤j→j<o+i+vs.length→¬(fz.1≤j∧j<fz.2))→o+i+vs.length≤C.size→(∀v∈vs,v.oneCell'=true)→
 (storeCells ⟨b,o,none⟩ vs i).run P w=.ok () (e7 w b (.cells (ej C (o+i) vs) E fz)):=by
 intro vs
 induction vs with
 |nil=>
  intro i C w d _ _ _;simp[storeCells,ej,xx d]
 |cons v vs ih=>
  intro i C w d c e a;simp only[Yb]at c e;have h1:w.cell? ⟨b,o+i,none⟩=some (C[o+i]'(a8)):=by
   rw[mT d];simp[show o+i<C.size from a8]
  have h2:w.frozen? ⟨b,o+i,none⟩=false:=by
   rw[CR d];have:=c (o+i) a8 a8
   simpa using this
  simp only[storeCells,Sem.run_bind,gu,run_store P w _ v _ (a v ak),h1,h2];simp only[Xp,↓reduceIte,Result.andThen_ok];rw[zy d,ih (i+1) _ _ (fB d) (λj h3 h4=>c j a8 a8) aH (λu f=>a u (Xa _ f)),uc];rfl
theorem dP {P:Program}(a:w.heap[b]? =some (.cells C E fz)) (cs:List Value) (h:∀j v,cs[j]? =some v→C[o+j]? =some v):
 (loadCells ⟨b,o,none⟩ cs.length).run P w=.ok cs.toArray w:=by
 exact run_loadCells_list w _ cs (λj v hv=>by rw[gu,mT a];exact h j v hv)
class Cut (l:List Value) (off n:Nat) (cs:outParam (List Value)):Prop where
 out:∀j v,cs[j]? =some v→l[off+j]? =some v
 len:cs.length=n
instance Cut.skip {x:Value}{l:List Value}{off n:Nat}{cs:List Value} [h:Cut l off n cs]:Cut (x::l) (off+1) n cs:=
 ⟨λj v hv=>by rw[show off+1+j=(off+j)+1 from a8,Xc];exact h.out j v hv,h.len⟩
instance Cut.take {x:Value}{l:List Value}{n:Nat}{cs:List Value} [h:Cut l 0 n cs]:Cut (x::l) 0 (n+1) (x::cs):=
 ⟨λj v hv=>by
  cases j with
  |zero=>simpa using hv
  |succ j=>rw[show 0+(j+1)=(0+j)+1 from a8,Xc];exact h.out j v (by simpa using hv),by simp[h.len]⟩
instance Cut.nil {l:List Value}:Cut l 0 0 []:=⟨λj v hv=>by simp at hv,rfl⟩
class Spl (l:List Value) (off:Nat) (vs:List Value) (l':outParam (List Value)):Prop where
 fit:off+vs.length≤l.length
 out:∀C:Array Value,C.toList=l→(ej C off vs).toList=l'
theorem Spl.eq [h:Spl l off vs l']:l'=l.take off++vs++l.drop (off+vs.length):=by
 have h1:=h.fit;rw[←h.out l.toArray ak,pE _ _ _ cC]
theorem rW (h:off+vs.length≤l.length) (he:l'=l.take off++vs++l.drop (off+vs.length)):Spl l off vs l':=
 ⟨h,λC a=>by rw[pE _ _ _ (by subst a;simpa using h),a,he]⟩
instance Spl.skip {x:Value}{l:List Value}{off:Nat}{vs l':List Value} [h:Spl l off vs l']:Spl (x::l) (off+1) vs (x::l'):=
 rW (by have:=h.fit;simp;omega) (by rw[h.eq];simp[show off+1+vs.length=(off+vs.length)+1 from a8])
instance Spl.here {x v:Value}{l:List Value}{vs l':List Value} [h:Spl l 0 vs l']:Spl (x::l) 0 (v::vs) (v::l'):=
 rW (by have:=h.fit;simp;omega) (by rw[h.eq];simp)
instance Spl.nil {l:List Value}:Spl l 0 [] l:=rW (ak) (ak)
class n4 (v:Value) (l:outParam (List Value)):Prop where
 out:v.cells=l.toArray
 one:∀u∈l,u.oneCell'=true
class rz (v:Value):Prop where
 out:v.oneCell'=true
instance {b:Bool}:rz (.bool b):=⟨rfl⟩
instance {k:IntKind}{n:Int}:rz (.int k n):=⟨rfl⟩
instance {s:ByteArray}:rz (.string s):=⟨rfl⟩
instance {a:Option Addr}:rz (.pointer a):=⟨rfl⟩
instance {a:Option Addr}{n c:Nat}:rz (.slice a n c):=⟨rfl⟩
instance {r:Option Nat}:rz (.map r):=⟨rfl⟩
instance:rz .nilIface:=⟨rfl⟩
class wT (l:List Value):Prop where
 out:∀u∈l,u.oneCell'=true
instance:wT []:=⟨λ_ h=>aU⟩
instance {v:Value}{l:List Value} [h:rz v] [h2:wT l]:wT (v::l):=⟨λu hu=>by
 rcases Xr.1 hu with rfl|hu
 ·exact h.out
 ·exact h2.out u hu⟩
instance (priority:=low) n4.single {v:Value} [h:rz v]:n4 v [v]:=⟨by
 have:=h.out
 cases v <;> simp_all [Value.oneCell',Value.cells],λu hu=>by simp at hu;subst hu;exact h.out⟩
instance n4.agg {l:List Value} [h:wT l]:n4 (.agg l.toArray) l:=⟨rfl,h.out⟩
class wU (a b:Nat) (c:outParam Nat):Prop where
 out:a+b=c
instance wU.zero {a:Nat}:wU a 0 a:=⟨rfl⟩
instance wU.succ {a n c:Nat} [h:wU a n c]:wU a (n+1) (c+1):=⟨by have:=h.out;omega⟩
def Vr (b:Nat) (l:List Value):Hp:=λL=>∃E,L= [(b,.cells l.toArray E (0,0))]
class cY (H:cG) (b:Nat) (l:outParam (List Value)):Prop where
 mem:∀L,Sep H L→∃E fz,(b,Obj.cells l.toArray E fz)∈L
instance cY.tail {A:Hp}{H:cG}{b:Nat}{l:List Value} [h:cY H b l]:cY (A::H) b l:=
 ⟨λL hL=>by obtain⟨L1,L2,rfl,_,h2⟩:=hL;obtain⟨E,fz,hm⟩:=h.mem _ h2;exact⟨E,fz,Yx _ hm⟩⟩
instance cY.head {H:cG}{b:Nat}{l:List Value}:cY (Vr b l::H) b l:=
 ⟨λL hL=>by obtain⟨L1,L2,rfl,⟨E,rfl⟩,_⟩:=hL;exact⟨E,(0,0),ak⟩⟩
theorem cY.get {G:cJ}{H:cG}(h:cY H b l) (hs:Sat G w H):∃E fz,w.heap[b]? =some (.cells l.toArray E fz):=by
 obtain⟨_,L,hL,hl⟩:=hs;obtain⟨E,fz,hm⟩:=h.mem L hL;exact⟨E,fz,hl.at_ _ hm⟩
theorem Ge {G:cJ}{H:cG}{C:Hp→cG}(h:Foc H Vr b l C) (hs:Sat G w H):∃E,w.heap[b]? =some (.cells l.toArray E (0,0))∧Sat G w (C (Pt b (.cells l.toArray E (0,0)))):=by
 obtain⟨a,L,hL,hl⟩:=hs;obtain⟨L1,M,L2,rfl,⟨E,rfl⟩,c⟩:=h.foc _ hL;exact⟨E,hl.at_ (b,.cells l.toArray E (0,0)) ak,a,_,c (Pt b _) _ rfl,hl⟩
theorem H4 {G:cJ}{w':World}{H:cG}{C:Hp→cG}(h:Foc H Vr b l C) (hs:Sat G w H){o:Obj}{B:Hp}(e:∀M,M= [(b,o)]→B M) (c:Ar G w') (a:w'.heap[b]? =some o) (hk:∀i,i≠b→i<w.heap.size→w'.heap[i]? =w.heap[i]?):Sat G w' (C B):=by
 obtain⟨_,L,hL,hl⟩:=hs;obtain⟨L1,M,L2,rfl,⟨f,rfl⟩,d⟩:=h.foc _ hL;have h1:=hl.at_ (b,.cells l.toArray f (0,0)) ak;exact⟨c,_,d B [(b,o)] (e _ rfl),ju.change aP a hk⟩
section
variable {G:cJ}{P:Program}{t:Tm}{H:cG}{dst:Option Tmp}{ty:TypeId}{pos:String}{after:Array Edge}{g:Option (Nat×Bool)}
theorem i7 [h:One P T] (w:World):(isAgg T).run P w=.ok false w:=by
 obtain⟨d,hd,hm⟩:=h.out;cases d <;> simp_all [isAgg,underlying]
theorem nR [h:Agg P T n] (w:World):(isAgg T).run P w=.ok true w:=by
 obtain⟨d,i,hd,hm,_⟩:=h.out;cases d <;> simp_all [isAgg,underlying]
theorem ji [h:Agg P T n] (w:World):(sizeOf T).run P w=.ok n w:=by
 obtain⟨d,i,_,_,hi,a⟩:=h.out;simp[sizeOf,typeInfo,hi,a]
theorem dA [h:Inf P T s b z] (w:World):(sizeOf T).run P w=.ok s w:=by
 obtain⟨i,hi,a,_,_⟩:=h.out;simp[sizeOf,typeInfo,hi,a]
theorem gY [h:Inf P T s b z] (w:World):(zeroValue T).run P w=.ok z w:=by
 obtain⟨i,hi,_,_,a⟩:=h.out;simp[zeroValue,typeInfo,hi,a]
theorem J5 (hx:evo t x=some (.pointer (some ⟨b,off,none⟩))) [hT:One P T] [hH:cY H b l] [hc:Cut l off 1 [v]]:
 Ev G P ⟨dst,.load T x,ty,pos,after,g⟩ t H v:=
 fun ρ hρ w hw=>by
  obtain⟨E,fz,a⟩:=hH.get hw;have h1:w.cell? ⟨b,off,none⟩=some v:=by rw[mT a];simpa using hc.out 0 v rfl
  simp[execOp,hρ _ _ hx,Instr.loadAt,Instr.sureAddr,loadVar,i7,h1]
theorem Gl {cs:List Value}(hx:evo t x=some (.pointer (some ⟨b,off,none⟩))) [hT:Agg P T n] [hH:cY H b l] [hc:Cut l off n cs]:
 Ev G P ⟨dst,.load T x,ty,pos,after,g⟩ t H (.agg cs.toArray):=
 fun ρ hρ w hw=>by
  obtain⟨E,fz,a⟩:=hH.get hw;have h1:=dP (P:=P) (o:=off) a cs (λj v hv=>by simpa using hc.out j v hv);rw[hc.len]at h1;simp[execOp,hρ _ _ hx,Instr.loadAt,Instr.sureAddr,loadVar,nR,ji (n:=n),h1]
theorem db {y:Operand}{bb:Nat}{cs:List Value}{C:Hp→cG}(hx:evo t x=some (.pointer (some ⟨b,off,none⟩))) (hy:evo t y=some v) [hT:Inf P T s bb z] [hv:n4 v cs] [hf:Foc H Vr b l C] [hl:Spl l off cs l'] (hs:cs.length=s):
 St G P ⟨dst,.store T x y,ty,pos,after,g⟩ t H (λu f=>u=undef∧f=C (Vr b l')):=
 fun ρ hρ w hw=>by
  obtain⟨E,c,_⟩:=Ge hf hw;have a:=hl.fit;have h1:=ez (P:=P) (o:=off) cs 0 l.toArray w c (λj _ _=>ak) (by simpa using a) hv.one;have d:v.cells.size=s:=by rw[hv.out];simpa using hs
  have hr:(execOp ρ ⟨dst,.store T x y,ty,pos,after,g⟩).run P w=.ok .skip (e7 w b (.cells (ej l.toArray off cs) E (0,0))):=by
   simp only[execOp,hρ _ _ hx,hρ _ _ hy,Instr.storeAt,Instr.sureAddr,storeVar,Sem.run_bind,Sem.run_pure,Result.andThen_ok,dA (T:=T),d];simp only[ne_eq,not_true_eq_false,↓reduceIte];rw[hv.out];simp only[Ur]at h1⊢;rw[h1];rfl
  rw[hr];refine⟨_,?_,rfl,rfl⟩;refine H4 hf hw (o:=.cells (ej l.toArray off cs) E (0,0)) (λM e=>⟨E,?_⟩) ⟨hw.1.os,hw.1.tape,hw.1.output⟩ (fB c) (λi hi _=>eL hi);rw[e,←hl.out l.toArray ak]
theorem wC {k o':Nat}(hx:evo t x=some (.pointer (some ⟨b,o,none⟩))) [hf:Fld P T k off] [ha:wU o off o']:
 Ev G P ⟨dst,.fieldAddr T x k,ty,pos,after,g⟩ t H (.pointer (some ⟨b,o',none⟩)):=
 fun ρ hρ w _=>by
  obtain⟨fs,f,i,h1,h2,h3,h4,a⟩:=hf.out;rw[←ha.out];simp[execOp,hρ _ _ hx,Instr.fieldAt,underlying,h1,h2,Instr.sureAddr,fieldPlace,sizeOf,typeInfo,h4,a,h3,gu]
theorem sJ (hx:evo t x=some v) [hv:n4 v l]:
 St G P ⟨dst,.box T x,ty,pos,after,g⟩ t H (λu c=>∃b,u=.pointer (some ⟨b,0,none⟩)∧c=Vr b l::H):=
 fun ρ hρ w hw=>by
  have hr:(execOp ρ ⟨dst,.box T x,ty,pos,after,g⟩).run P w=.ok (.value (.pointer (some ⟨w.heap.size,0,none⟩))) {w with heap:=w.heap.push (.cells l.toArray T)}:=by
   simp[execOp,hρ _ _ hx,Instr.box,newVar,newRow,hv.out]
  rw[hr];exact⟨_,(hw.alloc _).cons (λM a=>⟨T,a⟩),w.heap.size,rfl,rfl⟩
theorem ef {bb:Nat} [hT:Inf P T s bb z] [hv:n4 z l]:
 St G P ⟨dst,.alloc T,ty,pos,after,g⟩ t H (λu c=>∃b,u=.pointer (some ⟨b,0,none⟩)∧c=Vr b l::H):=
 fun ρ hρ w hw=>by
  have hr:(execOp ρ ⟨dst,.alloc T,ty,pos,after,g⟩).run P w=.ok (.value (.pointer (some ⟨w.heap.size,0,none⟩))) {w with heap:=w.heap.push (.cells l.toArray T)}:=by
   simp[execOp,Instr.alloc,gY (T:=T),newVar,newRow,hv.out]
  rw[hr];exact⟨_,(hw.alloc _).cons (λM a=>⟨T,a⟩),w.heap.size,rfl,rfl⟩
end
end
section
variable {E T:TypeId}{ats:Array TypeId}{bb i:Nat}{x:Operand}{α:Type}{xs:List α}{z:Value}
structure Enc (α:Type) where
 f:α→List Value
 sz:Nat
 agg:Bool
 len:∀x,(f x).length=sz
 one:∀x,∀v∈f x,v.oneCell'=true
 pos:0<sz
 h1:agg=false→sz=1
 small:sz≤64
def Enc.v {α:Type}(e:Enc α) (x:α):Value:=bif e.agg then .agg (e.f x).toArray else(e.f x).headD (.tuple #[])
theorem Enc.v_one (e:Enc α) (x:α) (h:e.agg=false):e.f x= [e.v x]:=by
 have h2:=e.len x;rw[e.h1 h]at h2;unfold Enc.v;rw[h]
 match hf:e.f x,h2 with
 | [a],_=>rfl
theorem Enc.v_agg (e:Enc α) (x:α) (h:e.agg=true):e.v x=.agg (e.f x).toArray:=by
 unfold Enc.v;rw[h];rfl
theorem Enc.v_cells (e:Enc α) (x:α):(e.v x).cells=(e.f x).toArray:=by
 cases h:e.agg with
 |true=>rw[e.v_agg x h];rfl
 |false=>
  have h2:=e.v_one x h;have h3:=e.one x (e.v x) (by rw[h2];simp);rw[h2];cases hv:e.v x <;> rw[hv]at h3 <;> simp_all [Value.cells,Value.oneCell']
def Enc.all {α:Type}(e:Enc α) (xs:List α):List Value:=xs.flatMap e.f
theorem gP (e:Enc α):e.all []= []:=rfl
theorem Enc.all_cons (e:Enc α) (x:α) (xs:List α):e.all (x::xs)=e.f x++e.all xs:=rfl
theorem Enc.all_append (e:Enc α) (xs ys:List α):e.all (xs++ys)=e.all xs++e.all ys:=by simp[Enc.all]
theorem Enc.all_length (e:Enc α) (xs:List α):(e.all xs).length=xs.length*e.sz:=by
 induction xs with
 |nil=>simp[gP]
 |cons x xs ih=>rw[Enc.all_cons,Ya,e.len,ih,Yb,Vg];omega
theorem Enc.all_one (e:Enc α) (xs:List α):∀v∈e.all xs,v.oneCell'=true:=by
 intro v hv;obtain⟨x,_,hx⟩:=X7.1 hv;exact e.one x v hx
theorem Enc.all_take (e:Enc α) (xs:List α) (n:Nat):e.all (xs.take n)=(e.all xs).take (n*e.sz):=by
 induction xs generalizing n with
 |nil=>simp[gP]
 |cons x xs ih=>
  cases n with
  |zero=>simp[gP]
  |succ n=>
   rw[Vj,Enc.all_cons,Enc.all_cons,ih,List.take_append,e.len];rw[show(n+1)*e.sz-e.sz=n*e.sz from aK];rw[Xq (l:=e.f x) (by rw[e.len,Vg];omega)]
theorem Enc.all_drop (e:Enc α) (xs:List α) (n:Nat):e.all (xs.drop n)=(e.all xs).drop (n*e.sz):=by
 induction xs generalizing n with
 |nil=>simp[gP]
 |cons x xs ih=>
  cases n with
  |zero=>simp
  |succ n=>
   rw[V7,Enc.all_cons,ih,List.drop_append,e.len];rw[show(n+1)*e.sz-e.sz=n*e.sz from aK];rw[Us (l:=e.f x) (by rw[e.len,Vg];omega)];simp
theorem Enc.all_get (e:Enc α) (xs:List α) (i j:Nat) (x:α) (hx:xs[i]? =some x) (hj:j<e.sz):(e.all xs)[i*e.sz+j]? =(e.f x)[j]? :=by
 induction xs generalizing i with
 |nil=>simp at hx
 |cons y ys ih=>
  rw[Enc.all_cons];cases i with
  |zero=>
   simp at hx;subst hx;rw[Yv bC];simp
  |succ i=>
   simp at hx;rw[Yu (by rw[e.len,Vg];omega),e.len,←ih i hx];congr 1;rw[Vg];omega
structure SV where
 a:Option Addr
 n:Nat
 c:Nat
def SV.val (s:SV):Value:=.slice s.a s.n s.c
instance {s:SV}:rz s.val:=⟨rfl⟩
def SV.nil:SV:=⟨none,0,0⟩
def eB:Enc Nat:=⟨λn=>[.int .u8 (n:Int)],1,false,λ_=>rfl,λ_ v h=>aT,ae,λ_=>rfl,ae⟩
def eI:Enc Int:=⟨λn=>[.int .i64 n],1,false,λ_=>rfl,λ_ v h=>aT,ae,λ_=>rfl,ae⟩
def eS:Enc ByteArray:=⟨λs=>[.string s],1,false,λ_=>rfl,λ_ v h=>aT,ae,λ_=>rfl,ae⟩
def eSV:Enc SV:=⟨λs=>[s.val],1,false,λ_=>rfl,λ_ v h=>aT,ae,λ_=>rfl,ae⟩
def SlL {α:Type}(s:SV) (e:Enc α) (xs:List α) (L:mX):Prop:=
 s.n=xs.length∧s.n≤s.c∧((xs= []∧s.c=0)∨∃b off C E fz,s.a=some ⟨b,off,none⟩∧(b,Obj.cells C E fz)∈L∧off+s.c*e.sz≤C.size∧∀j v,(e.all xs)[j]? =some v→C[off+j]? =some v)
class Sl (H:cG) (s:SV) {α:outParam Type}(e:outParam (Enc α)) (xs:outParam (List α)):Prop where
 out:∀L,Sep H L→SlL s e xs L
theorem SlL.mono {s:SV}{e:Enc α}{L c:mX}(h:SlL s e xs L) (hs:∀x∈L,x∈c):SlL s e xs c:=by
 obtain⟨h1,h2,h3⟩:=h;refine⟨h1,h2,h3.imp id ?_⟩;rintro⟨b,a,C,E,fz,h4,d,h6⟩;exact⟨b,a,C,E,fz,h4,hs _ d,h6⟩
instance Sl.tail {A:Hp}{H:cG}{s:SV}{α:Type}{e:Enc α}{xs:List α} [h:Sl H s e xs]:Sl (A::H) s e xs:=
 ⟨λL hL=>by obtain⟨L1,L2,rfl,_,h2⟩:=hL;exact(h.out _ h2).mono λx hx=>Yx _ hx⟩
def Okf (n:Nat) (fz:Nat×Nat):Prop:=fz.1=fz.2∨n≤fz.1
theorem Okf.free {n:Nat}{fz:Nat×Nat}(h:Okf n fz) (j:Nat) (hj:j<n):¬(fz.1≤j∧j<fz.2):=by
 rcases h with h|h <;> omega
def Row {α:Type}(s:SV) (e:Enc α) (xs:List α):Hp:=λL=>
 (s=SV.nil∧xs= []∧L= [])∨∃(b:Nat) (C:Array Value) (E:TypeId) (fz:Nat×Nat),s.a=some ⟨b,0,none⟩∧s.n=xs.length∧s.n≤s.c∧L= [(b,.cells C E fz)]∧C.size=s.c*e.sz∧Okf C.size fz∧∀(j:Nat) (v:Value),(e.all xs)[j]? =some v→C[j]? =some v
theorem Row.slL {s:SV}{e:Enc α}{L:mX}(h:Row s e xs L):SlL s e xs L:=by
 rcases h with⟨rfl,rfl,rfl⟩|⟨b,C,E,fz,h1,h2,h3,rfl,h5,_,a⟩
 ·exact⟨rfl,Xj _,.inl ⟨rfl,rfl⟩⟩
 ·exact⟨h2,h3,.inr ⟨b,0,C,E,fz,h1,ak,a8,λj v hv=>by rw[Vf];exact a j v hv⟩⟩
instance Sl.row {H:cG}{s:SV}{α:Type}{e:Enc α}{xs:List α}:Sl (Row s e xs::H) s e xs:=
 ⟨λL hL=>by
  obtain⟨L1,L2,rfl,h1,h2⟩:=hL
  exact h1.slL.mono λx hx=>Yy _ hx⟩
class mc (H:cG) (s:SV) {α:outParam Type}(e:outParam (Enc α)) (xs:outParam (List α)) (C:outParam (Hp→cG)):Prop where
 foc:∀L,Sep H L→∃L1 M L2,L=L1++(M++L2)∧Row s e xs M∧∀(B:Hp) M',B M'→Sep (C B) (L1++(M'++L2))
instance mc.tail {A:Hp}{H:cG}{s:SV}{α:Type}{e:Enc α}{xs:List α}{C:Hp→cG} [h:mc H s e xs C]:mc (A::H) s e xs (λB=>A::C B):=
 ⟨λL hL=>by
  obtain⟨N1,N2,rfl,hA,h2⟩:=hL
  obtain⟨L1,M,L2,rfl,hM,hB⟩:=h.foc _ h2
  exact⟨N1++L1,M,L2,ak,hM,λB M' hm=>⟨N1,L1++(M'++L2),ak,hA,hB B M' hm⟩⟩⟩
instance mc.head {H:cG}{s:SV}{α:Type}{e:Enc α}{xs:List α}:mc (Row s e xs::H) s e xs (λB=>B::H):=
 ⟨λL hL=>by
  obtain⟨L1,L2,rfl,h1,h2⟩:=hL
  exact⟨[],L1,L2,rfl,h1,λB M' hm=>⟨M',L2,rfl,hm,h2⟩⟩⟩
theorem Sl.get {G:cJ}{w:World}{H:cG}{s:SV}{e:Enc α}(h:Sl H s e xs) (hs:Sat G w H):
 s.n=xs.length∧s.n≤s.c∧((xs= []∧s.c=0)∨∃b a C E fz,s.a=some ⟨b,a,none⟩∧w.heap[b]? =some (.cells C E fz)∧a+s.c*e.sz≤C.size∧∀j v,(e.all xs)[j]? =some v→C[a+j]? =some v):=by
 obtain⟨_,L,hL,hl⟩:=hs;obtain⟨h1,h2,h3⟩:=h.out L hL;refine⟨h1,h2,h3.imp id ?_⟩;rintro⟨b,a,C,E,fz,h4,c,h6⟩;exact⟨b,a,C,E,fz,h4,hl.at_ _ c,h6⟩
def SV.elt (s:SV) (sz i off:Nat):Option Addr:=s.a.map λa=>⟨a.block,a.off+(i*sz+off),none⟩
def SV.cut (s:SV) (sz lo hi:Nat):SV:=⟨if s.c=lo then s.a else s.a.map (·.add (lo*sz)),hi-lo,s.c-lo⟩
theorem Sl.cut {H:cG}{s:SV}{e:Enc α}(h:Sl H s e xs){lo hi:Nat}(h1:lo≤hi) (h2:hi≤xs.length):Sl H (s.cut e.sz lo hi) e ((xs.take hi).drop lo):=by
 refine⟨λL hL=>?_⟩;obtain⟨q1,q2,i⟩:=h.out L hL;refine⟨by simp[SV.cut];omega,by simp only[SV.cut];omega,?_⟩;rcases i with⟨rfl,c⟩|⟨b,a,C,E,fz,f,d,c,g⟩
 ·left;simp at h2;subst h2;obtain rfl:lo=0:=a8;exact⟨ak,by simp[SV.cut,c]⟩
 ·right
  by_cases hc:s.c=lo
  ·refine⟨b,a,C,E,fz,by simp[SV.cut,hc,f],d,by simp only[SV.cut,hc];simp;omega,λj v hv=>?_⟩;have:(xs.take hi).drop lo= []:=by
    apply Us;simp;omega
   rw[this]at hv;simp[gP]at hv
  ·refine⟨b,a+lo*e.sz,C,E,fz,by simp[SV.cut,hc,f,gu],d,?_,λj v hv=>?_⟩
   ·simp only[SV.cut];rw[Nat.sub_mul];have:lo*e.sz≤s.c*e.sz:=Vc _ a8;omega
   ·rw[Enc.all_drop,Enc.all_take,Xh]at hv;rw[Vz];refine g _ v ?_
    by_cases hk:lo*e.sz+j<hi*e.sz
    ·rwa [Xz hk]at hv
    ·rw[List.getElem?_take_eq_none a8]at hv;cases hv
section
variable {G:cJ}{P:Program}{N:Nat}{Q:Post}{t:Tm}{H:cG}{dst:Option Tmp}{ty:TypeId}{pos:String}{after:Array Edge}{g:Option (Nat×Bool)}
theorem cS {d:TypeDesc} [h:Und P T d] (w:World):(underlying T).run P w=.ok d w:=by simp[underlying,h.out]
theorem Mo {s:SV}{e:Enc α}(hx:evo t x=some s.val) (ha:ats[0]? =some T) [hT:Und P T (.slice E)] [hs:Sl H s e xs]:
 Ev G P ⟨dst,.call ⟨.builtin .len, #[x],ats⟩,ty,pos,after,g⟩ t H (.int .i64 ((xs.length:Nat):Int)):=
 fun ρ hρ w hw=>by
  obtain⟨h1,_⟩:=hs.get hw;simp[execOp,resolve,invoke,builtin,Builtin.len_,hρ _ _ hx,ha,cS (T:=T),SV.val,goInt,h1]
theorem A8 {s:ByteArray}(hx:evo t x=some (.string s)) (ha:ats[0]? =some T) [hT:Und P T .string]:
 Ev G P ⟨dst,.call ⟨.builtin .len, #[x],ats⟩,ty,pos,after,g⟩ t H (.int .i64 ((s.size:Nat):Int)):=
 fun ρ hρ w _=>by
  simp[execOp,resolve,invoke,builtin,Builtin.len_,hρ _ _ hx,ha,cS (T:=T),goInt]
theorem cV {a:Operand}{s:SV}{e:Enc α}{sz:Nat}{k:IntKind}{j:Int}(hx:evo t x=some s.val) (hi:evo t a=some (.int k j)) [hT:Und P T (.slice E)] [hE:Inf P E sz bb z] [hs:Sl H s e xs] (i:Nat) (hj:j=i) (hlt:i<xs.length):
 Ev G P ⟨dst,.indexAddr T x a,ty,pos,after,g⟩ t H (.pointer (s.elt sz i 0)):=
 fun ρ hρ w hw=>by
  obtain⟨h1,_,h3⟩:=hs.get hw;rcases h3 with⟨rfl,_⟩|⟨b,off,C,E',fz,h4,_⟩
  ·simp at hlt
  ·have c:¬(s.n≤i):=by omega
   simp[execOp,hρ _ _ hx,hρ _ _ hi,Instr.indexAt,asIntOf,hj,cS (T:=T),SV.val,h4,c,dA (T:=E) (s:=sz),gu,SV.elt]
theorem qL {s:SV}{k sz o off o':Nat}(hx:evo t x=some (.pointer (s.elt sz i o))){e:Enc α} [hs:Sl H s e xs] (hlt:i<xs.length) [hf:Fld P T k off] [ha:wU o off o']:
 Ev G P ⟨dst,.fieldAddr T x k,ty,pos,after,g⟩ t H (.pointer (s.elt sz i o')):=
 fun ρ hρ w hw=>by
  rw[←ha.out];obtain⟨h1,_,h3⟩:=hs.get hw;rcases h3 with⟨rfl,_⟩|⟨b,of',C,E',fz,h4,_⟩
  ·simp at hlt
  ·obtain⟨fs,f,i',j,h,d,c,a⟩:=hf.out;have hx':=hρ _ _ hx;simp only[SV.elt,h4,Vd]at hx';simp[execOp,hx',Instr.fieldAt,underlying,j,h,Instr.sureAddr,fieldPlace,sizeOf,typeInfo,c,a,d,gu,SV.elt,h4,Vz]
theorem rl {s:SV}{o:Nat}{v:Value}{e:Enc α}(hx:evo t x=some (.pointer (s.elt e.sz i o))) [hT:One P T] [hs:Sl H s e xs] (y:α) (hy:xs[i]? =some y) (hc:(e.f y)[o]? =some v):
 Ev G P ⟨dst,.load T x,ty,pos,after,g⟩ t H v:=
 fun ρ hρ w hw=>by
  obtain⟨h1,_,h3⟩:=hs.get hw;rcases h3 with⟨rfl,_⟩|⟨b,a,C,E',fz,h4,d,_,h6⟩
  ·simp at hy
  ·have hx':=hρ _ _ hx;simp only[SV.elt,h4,Vd]at hx';have c:o<e.sz:=by rw[←e.len y];exact(Yk.1 hc).1
   have f:w.cell? ⟨b,a+(i*e.sz+o),none⟩=some v:=by
    rw[mT d];exact h6 _ v (by rw[e.all_get xs i o y hy c];exact hc)
   simp[execOp,hx',Instr.loadAt,Instr.sureAddr,loadVar,i7,f]
theorem uh {s:SV}{e:Enc α}(hx:evo t x=some (.pointer (s.elt e.sz i 0))) (ha:e.agg=false) [hT:One P T] [hs:Sl H s e xs] (y:α) (hy:xs[i]? =some y):
 Ev G P ⟨dst,.load T x,ty,pos,after,g⟩ t H (e.v y):=
 rl hx y hy (by rw[e.v_one y ha];rfl)
theorem tI {s:SV}{e:Enc α}(hx:evo t x=some (.pointer (s.elt e.sz i 0))) (ha:e.agg=true) [hT:Agg P T e.sz] [hs:Sl H s e xs] (y:α) (hy:xs[i]? =some y):
 Ev G P ⟨dst,.load T x,ty,pos,after,g⟩ t H (e.v y):=
 fun ρ hρ w hw=>by
  obtain⟨h1,_,h3⟩:=hs.get hw;rcases h3 with⟨rfl,_⟩|⟨b,a,C,E',fz,h4,f,_,h6⟩
  ·simp at hy
  ·have hx':=hρ _ _ hx;simp only[SV.elt,h4,Vd]at hx';have c:=dP (P:=P) (o:=a+(i*e.sz+0)) f (e.f y) (λj v hv=>by
    have d:j<e.sz:=by rw[←e.len y];exact(Yk.1 hv).1
    rw[Vz,Ur];exact h6 _ v (by rw[e.all_get xs i j y hy d];exact hv))
   rw[e.len]at c;rw[e.v_agg y ha];simp only[execOp,hx',Instr.loadAt,Instr.sureAddr,loadVar,Sem.run_bind,Sem.run_pure,Result.andThen_ok,nR (n:=e.sz),ji (n:=e.sz),c,↓reduceIte]
theorem wB {s:SV}{o n:Nat}{cs:List Value}{e:Enc α}(hx:evo t x=some (.pointer (s.elt e.sz i o))) [hT:Agg P T n] [hs:Sl H s e xs] (y:α) (hy:xs[i]? =some y) [hc:Cut (e.f y) o n cs]:
 Ev G P ⟨dst,.load T x,ty,pos,after,g⟩ t H (.agg cs.toArray):=
 fun ρ hρ w hw=>by
  obtain⟨h1,_,h3⟩:=hs.get hw;rcases h3 with⟨rfl,_⟩|⟨b,a,C,E',fz,h4,h,_,h6⟩
  ·simp at hy
  ·have hx':=hρ _ _ hx;simp only[SV.elt,h4,Vd]at hx';have c:=dP (P:=P) (o:=a+(i*e.sz+o)) h cs (λj v hv=>by
    have d:=hc.out j v hv;have f:o+j<e.sz:=by rw[←e.len y];exact(Yk.1 d).1
    rw[Vz,Vz];exact h6 _ v (by rw[e.all_get xs i (o+j) y hy f];exact d))
   rw[hc.len]at c;simp[execOp,hx',Instr.loadAt,Instr.sureAddr,loadVar,nR,ji (n:=n),c]
theorem yh {lo hi:Option Operand}{s:SV}{e:Enc α}(hx:evo t x=some s.val) [hT:Und P T (.slice E)] [hE:Inf P E e.sz bb z] [hs:Sl H s e xs] (l h:Nat) (b:match lo with|none=>l=0|some o=>∃k j,evo t o=some (.int k j)∧j=(l:Int)) (a:match hi with|none=>h=xs.length|some o=>∃k j,evo t o=some (.int k j)∧j=(h:Int)) (h1:l≤h) (h2:h≤xs.length):
 Ev G P ⟨dst,.slice T x lo hi none,ty,pos,after,g⟩ t H (s.cut e.sz l h).val:=
 fun ρ hρ w hw=>by
  obtain⟨d,q2,_⟩:=hs.get hw;have n:(Instr.sliceBounds true s.n s.c (lo.map ρ) (hi.map ρ) none).run P w=.ok (l,h,s.c) w:=by
   have c:∀(j:Nat) (k:IntKind) (y:Nat) (m:BoundsCode),j≤y→(Instr.sliceBound (.int k (j:Int)) y m).run P w=.ok j w:=by
    intro j k y m hj;have:(j:Int)≤(y:Int):=a8;simp[Instr.sliceBound,asIntOf,this]
   cases lo with
   |none=>
    simp only at b;subst b;cases hi with
    |none=>simp only at a;subst a;simp[Instr.sliceBounds,d]
    |some o=>
     obtain⟨k,j,h3,h4⟩:=a;subst h4;simp[Instr.sliceBounds,hρ _ _ h3,c h k s.c _ a8]
   |some o'=>
    obtain⟨f,j',i,h6⟩:=b;subst h6;cases hi with
    |none=>simp only at a;subst a;simp[Instr.sliceBounds,hρ _ _ i,c l f xs.length _ a8,d]
    |some o=>
     obtain⟨k,j,h3,h4⟩:=a;subst h4;simp[Instr.sliceBounds,hρ _ _ h3,hρ _ _ i,c h k s.c _ a8,c l f h _ a8]
  simp only[execOp,hρ _ _ hx,Instr.sliceAt,SV.val,Option.map_none,Sem.run_bind,cS (T:=T),Result.andThen_ok];simp only[Instr.slice,Sem.run_bind,cS (T:=T),Result.andThen_ok,n,dA (T:=E) (s:=e.sz),Sem.run_pure];rfl
end
end
end Go.Sx
