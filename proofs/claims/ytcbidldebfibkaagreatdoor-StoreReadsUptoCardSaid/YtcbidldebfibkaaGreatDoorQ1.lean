import Derived.Test.YtcbidldebfibkaaGreatDoorQ0
import Derived.Laws.BitsLemmas
import Derived.Laws.Bits64
import Derived.Laws.Cells
set_option linter.unusedVariables false
set_option linter.unusedSimpArgs false
set_option linter.unusedSectionVars false
set_option linter.unnecessarySimpa false
set_option maxHeartbeats 0
namespace Go.Sx
open Go
class Und (P:Program) (T:TypeId) (d:outParam TypeDesc):Prop where
 out:P.underlying T=some d
class Inf (P:Program) (T:TypeId) (size bytes:outParam Nat) (zero:outParam Value):Prop where
 out:∃i,P.info? T=some i∧i.size=size∧i.bytes=bytes∧i.zero=some zero
class One (P:Program) (T:TypeId):Prop where
 out:∃d,P.underlying T=some d∧(match d with| .struct _| .array _ _=> false|_=> true)=true
class Agg (P:Program) (T:TypeId) (size:outParam Nat):Prop where
 out:∃d i,P.underlying T=some d∧(match d with| .struct _| .array _ _=> true|_=> false)=true∧P.info? T=some i∧i.size=size
class Fld (P:Program) (T:TypeId) (k:Nat) (off:outParam Nat):Prop where
 out:∃fs f i,P.underlying T=some (.struct fs)∧fs[k]? =some f∧f.offset=off∧P.info? f.type=some i∧i.size≠0
section
variable {G:cM}{P:Program}{t:Tm}{H:cG}{dst:Option Tmp}{ty:TypeId}{pos:String}{after:Array Edge}{g:Option (Nat×Bool)}
theorem IG {x:Operand}{v:Value}(hx:evo t x=some v):Ev G P ⟨dst, .move x,ty,pos,after,g⟩ t H v:=
 fun ρ hρ w _=> by simp[execOp,hρ x v hx]
theorem vS {x:Operand}{v:Value}(hx:evo t x=some v):Ev G P ⟨dst, .assign x,ty,pos,after,g⟩ t H v:=
 fun ρ hρ w _=> by simp[execOp,hρ x v hx]
theorem Aq {x:Operand}{i:Nat}{vs:Array Value}{v:Value}(hx:evo t x=some (.tuple vs)) (hv:vs[i]? =some v):
 Ev G P ⟨dst, .extract x i,ty,pos,after,g⟩ t H v:=
 fun ρ hρ w _=> by simp[execOp,hρ _ _ hx,Instr.extract,hv]
theorem yE {x:Operand}{a:Addr}(hx:evo t x=some (.pointer (some a))):Ev G P ⟨dst, .nilCheck x,ty,pos,after,g⟩ t H (.pointer (some a)):=
 fun ρ hρ w _=> by simp[execOp,hρ _ _ hx]
theorem iM {z:Int}(h: -9223372036854775808≤z∧z≤9223372036854775807):IntKind.i64.wrap z=z:=by
 rw[IntKind.wrap_i64];omega
theorem Lk {T U:TypeId}{x y:Operand}{a b:Int}(hx:evo t x=some (.int .i64 a)) (hy:evo t y=some (.int .i64 b)) (h: -9223372036854775808≤a+b∧a+b≤9223372036854775807):
 Ev G P ⟨dst, .binOp .add T x y U,ty,pos,after,g⟩ t H (.int .i64 (a+b)):=
 fun ρ hρ w _=> bg
theorem FP {T U:TypeId}{x y:Operand}{a b:Int}(hx:evo t x=some (.int .i64 a)) (hy:evo t y=some (.int .i64 b)) (h: -9223372036854775808≤a - b∧a - b≤9223372036854775807):
 Ev G P ⟨dst, .binOp .sub T x y U,ty,pos,after,g⟩ t H (.int .i64 (a - b)):=
 fun ρ hρ w _=> bg
theorem Lc {T U:TypeId}{x y:Operand}{a b:Int}(hx:evo t x=some (.int .i64 a)) (hy:evo t y=some (.int .i64 b)) (h: -9223372036854775808≤a*b∧a*b≤9223372036854775807):
 Ev G P ⟨dst, .binOp .mul T x y U,ty,pos,after,g⟩ t H (.int .i64 (a*b)):=
 fun ρ hρ w _=> bg
theorem FQ {T:TypeId}{x:Operand}{a:Int}(hx:evo t x=some (.int .i64 a)) (h: -9223372036854775808≤ -a∧ -a≤9223372036854775807):
 Ev G P ⟨dst, .unOp .neg T x,ty,pos,after,g⟩ t H (.int .i64 (-a)):=
 fun ρ hρ w _=> by simp[execOp,hρ _ _ hx,Op.unary,Op.intArith,iM h]
theorem Le {T U:TypeId}{x y:Operand}{k:IntKind}{a b:Int}(hx:evo t x=some (.int k a)) (hy:evo t y=some (.int k b)):
 Ev G P ⟨dst, .binOp .lss T x y U,ty,pos,after,g⟩ t H (.bool (decide (a<b))):=
 fun ρ hρ w _=> aT
theorem Lf {T U:TypeId}{x y:Operand}{k:IntKind}{a b:Int}(hx:evo t x=some (.int k a)) (hy:evo t y=some (.int k b)):
 Ev G P ⟨dst, .binOp .leq T x y U,ty,pos,after,g⟩ t H (.bool (decide (a≤b))):=
 fun ρ hρ w _=> aT
theorem Lh {T U:TypeId}{x y:Operand}{k:IntKind}{a b:Int}(hx:evo t x=some (.int k a)) (hy:evo t y=some (.int k b)):
 Ev G P ⟨dst, .binOp .gtr T x y U,ty,pos,after,g⟩ t H (.bool (decide (b<a))):=
 fun ρ hρ w _=> aT
theorem Li {T U:TypeId}{x y:Operand}{k:IntKind}{a b:Int}(hx:evo t x=some (.int k a)) (hy:evo t y=some (.int k b)):
 Ev G P ⟨dst, .binOp .geq T x y U,ty,pos,after,g⟩ t H (.bool (decide (b≤a))):=
 fun ρ hρ w _=> aT
theorem Lj {T U:TypeId}{x y:Operand}{k:IntKind}{a b:Int}(hx:evo t x=some (.int k a)) (hy:evo t y=some (.int k b)):
 Ev G P ⟨dst, .binOp .eql T x y U,ty,pos,after,g⟩ t H (.bool (decide (a=b))):=
 fun ρ hρ w _=> by
  have e:(a==b)=decide (a=b):=by rw[Bool.eq_iff_iff];simp
  simp[execOp,hρ _ _ hx,hρ _ _ hy,eqGuard,binOp,Op.intCmp,e]
theorem Lb {T U:TypeId}{x y:Operand}{k:IntKind}{a b:Int}(hx:evo t x=some (.int k a)) (hy:evo t y=some (.int k b)):
 Ev G P ⟨dst, .binOp .neq T x y U,ty,pos,after,g⟩ t H (.bool (decide (a≠b))):=
 fun ρ hρ w _=> by
  have e:(a !=b)=decide (a≠b):=by rw[Bool.eq_iff_iff];simp
  simp only[execOp,hρ _ _ hx,hρ _ _ hy,eqGuard,binOp,Op.intCmp]
  simp[e]
theorem La {T:TypeId}{x:Operand}{b:Bool}(hx:evo t x=some (.bool b)):Ev G P ⟨dst, .unOp .not T x,ty,pos,after,g⟩ t H (.bool !b):=
 fun ρ hρ w _=> by simp[execOp,hρ _ _ hx,Op.unary]
theorem js {k:IntKind}(hk:k.signed=false) (n:Nat):k.wrap (n:Int)=((n % 2 ^ k.bits:Nat):Int):=by
 cases k <;> simp_all [IntKind.wrap,IntKind.signed,IntKind.bits] <;> omega
theorem gj (m n:Nat):BitVec.ofInt m (n:Int)=BitVec.ofNat m n:=by
 simp
theorem IL {T U:TypeId}{x y:Operand}{k:IntKind}{i j:Int}(hx:evo t x=some (.int k i)) (hy:evo t y=some (.int k j)) (hk:k.signed=false) (a b:Nat) (ha:i=a) (hb:j=b):
 Ev G P ⟨dst, .binOp .add T x y U,ty,pos,after,g⟩ t H (.int k (((a+b) % 2 ^ k.bits:Nat):Int)):=
 fun ρ hρ w _=> by
  have e:k.wrap ((a:Int)+(b:Int))=(((a+b) % 2 ^ k.bits:Nat):Int):=by rw[←js hk];congr 1
  simp only[execOp,hρ _ _ hx,hρ _ _ hy,eqGuard,binOp,Op.intArith,ha,hb]
  simp[e]
theorem IF {T U:TypeId}{x y:Operand}{k:IntKind}{i j:Int}(hx:evo t x=some (.int k i)) (hy:evo t y=some (.int k j)) (hk:k.signed=false) (a b:Nat) (ha:i=a) (hb:j=b):
 Ev G P ⟨dst, .binOp .mul T x y U,ty,pos,after,g⟩ t H (.int k (((a*b) % 2 ^ k.bits:Nat):Int)):=
 fun ρ hρ w _=> by
  have e:k.wrap ((a:Int)*(b:Int))=(((a*b) % 2 ^ k.bits:Nat):Int):=by rw[←js hk,Int.natCast_mul]
  simp only[execOp,hρ _ _ hx,hρ _ _ hy,eqGuard,binOp,Op.intArith,ha,hb]
  simp[e]
theorem Iy {T U:TypeId}{x y:Operand}{k:IntKind}{i j:Int}(hx:evo t x=some (.int k i)) (hy:evo t y=some (.int k j)) (hk:k.signed=false) (a b:Nat) (ha:i=a) (hb:j=b) (hle:b≤a) (hlt:a<2 ^ k.bits):
 Ev G P ⟨dst, .binOp .sub T x y U,ty,pos,after,g⟩ t H (.int k ((a - b:Nat):Int)):=
 fun ρ hρ w _=> by
  have e:k.wrap ((a:Int) - (b:Int))=((a - b:Nat):Int):=by
   rw[←Int.ofNat_sub hle,js hk,Nat.mod_eq_of_lt (a8)]
  simp only[execOp,hρ _ _ hx,hρ _ _ hy,eqGuard,binOp,Op.intArith,ha,hb]
  simp only[Sem.run_bind,Sem.run_pure,e,ne_eq,not_true_eq_false,↓reduceIte]
  rfl
theorem IK {T U:TypeId}{x y:Operand}{k:IntKind}{i j:Int}(hx:evo t x=some (.int k i)) (hy:evo t y=some (.int k j)) (hk:k.signed=false) (a b:Nat) (ha:i=a) (hb:j=b) (hla:a<2 ^ k.bits) (hlb:b<2 ^ k.bits):
 Ev G P ⟨dst, .binOp .and T x y U,ty,pos,after,g⟩ t H (.int k ((a &&& b:Nat):Int)):=
 fun ρ hρ w _=> by
  have e:(BitVec.ofInt k.bits (a:Int) &&& BitVec.ofInt k.bits (b:Int)).toNat=a &&& b:=by
   rw[gj,gj,BitVec.toNat_and,BitVec.toNat_ofNat,BitVec.toNat_ofNat,Nat.mod_eq_of_lt hla,Nat.mod_eq_of_lt hlb]
  have e2:k.wrap ((a &&& b:Nat):Int)=((a &&& b:Nat):Int):=by rw[js hk,Nat.mod_eq_of_lt (Nat.and_lt_two_pow _ hlb)]
  simp only[execOp,hρ _ _ hx,hρ _ _ hy,eqGuard,binOp,Op.intBits,ha,hb]
  simp only[Sem.run_bind,Sem.run_pure,e,e2,ne_eq,not_true_eq_false,↓reduceIte]
  rfl
theorem L8 {T U:TypeId}{x y:Operand}{k:IntKind}{i j:Int}(hx:evo t x=some (.int k i)) (hy:evo t y=some (.int k j)) (hk:k.signed=false) (a b:Nat) (ha:i=a) (hb:j=b) (hla:a<2 ^ k.bits) (hlb:b<2 ^ k.bits):
 Ev G P ⟨dst, .binOp .or T x y U,ty,pos,after,g⟩ t H (.int k ((a |||b:Nat):Int)):=
 fun ρ hρ w _=> by
  have e:(BitVec.ofInt k.bits (a:Int) |||BitVec.ofInt k.bits (b:Int)).toNat=a |||b:=by
   rw[gj,gj,BitVec.toNat_or,BitVec.toNat_ofNat,BitVec.toNat_ofNat,Nat.mod_eq_of_lt hla,Nat.mod_eq_of_lt hlb]
  have e2:k.wrap ((a |||b:Nat):Int)=((a |||b:Nat):Int):=by rw[js hk,Nat.mod_eq_of_lt (Nat.or_lt_two_pow hla hlb)]
  simp only[execOp,hρ _ _ hx,hρ _ _ hy,eqGuard,binOp,Op.intBits,ha,hb]
  simp only[Sem.run_bind,Sem.run_pure,e,e2,ne_eq,not_true_eq_false,↓reduceIte]
  rfl
theorem Ix {T U:TypeId}{x y:Operand}{k:IntKind}{i j:Int}(hx:evo t x=some (.int k i)) (hy:evo t y=some (.int k j)) (hk:k.signed=false) (a b:Nat) (ha:i=a) (hb:j=b) (hla:a<2 ^ k.bits) (hlb:b<2 ^ k.bits):
 Ev G P ⟨dst, .binOp .xor T x y U,ty,pos,after,g⟩ t H (.int k ((a ^^^ b:Nat):Int)):=
 fun ρ hρ w _=> by
  have e:(BitVec.ofInt k.bits (a:Int) ^^^ BitVec.ofInt k.bits (b:Int)).toNat=a ^^^ b:=by
   rw[gj,gj,BitVec.toNat_xor,BitVec.toNat_ofNat,BitVec.toNat_ofNat,Nat.mod_eq_of_lt hla,Nat.mod_eq_of_lt hlb]
  have e2:k.wrap ((a ^^^ b:Nat):Int)=((a ^^^ b:Nat):Int):=by rw[js hk,Nat.mod_eq_of_lt (Nat.xor_lt_two_pow hla hlb)]
  simp only[execOp,hρ _ _ hx,hρ _ _ hy,eqGuard,binOp,Op.intBits,ha,hb]
  simp only[Sem.run_bind,Sem.run_pure,e,e2,ne_eq,not_true_eq_false,↓reduceIte]
  rfl
theorem ID {T:TypeId}{x:Operand}{k:IntKind}{i:Int}(hx:evo t x=some (.int k i)) (hk:k.signed=false) (a:Nat) (ha:i=a) (hla:a<2 ^ k.bits):
 Ev G P ⟨dst, .unOp .xor T x,ty,pos,after,g⟩ t H (.int k (((2 ^ k.bits - 1) ^^^ a:Nat):Int)):=
 fun ρ hρ w _=> by
  have hm:(k.max:Int)=((2 ^ k.bits - 1:Nat):Int):=by cases k <;> simp_all [IntKind.max,IntKind.signed,IntKind.bits]
  have hlb:2 ^ k.bits - 1<2 ^ k.bits:=by have:=Nat.two_pow_pos k.bits;omega
  have e:(BitVec.ofInt k.bits ((2 ^ k.bits - 1:Nat):Int) ^^^ BitVec.ofInt k.bits (a:Int)).toNat=(2 ^ k.bits - 1) ^^^ a:=by
   rw[gj,gj,BitVec.toNat_xor,BitVec.toNat_ofNat,BitVec.toNat_ofNat,Nat.mod_eq_of_lt hla,Nat.mod_eq_of_lt hlb]
  have e2:k.wrap (((2 ^ k.bits - 1) ^^^ a:Nat):Int)=(((2 ^ k.bits - 1) ^^^ a:Nat):Int):=by rw[js hk,Nat.mod_eq_of_lt (Nat.xor_lt_two_pow hlb hla)]
  simp only[execOp,hρ _ _ hx,Op.unary,Op.intBits,ha,hk,hm]
  simp only[Sem.run_bind,Sem.run_pure,e,e2,Bool.false_eq_true,↓reduceIte]
  rfl
theorem ei {T U:TypeId}{x y:Operand}{k k':IntKind}{i j:Int}(hx:evo t x=some (.int k i)) (hy:evo t y=some (.int k' j)) (a b:Nat) (ha:i=a) (hb:j=b) (hla:b≤k.bits):
 Ev G P ⟨dst, .binOp .shr T x y U,ty,pos,after,g⟩ t H (.int k ((a / 2 ^ b:Nat):Int)):=
 fun ρ hρ w _=> by
  have e:((a:Int).fdiv (2 ^ b))=((a / 2 ^ b:Nat):Int):=by
   rw[Int.fdiv_eq_ediv_of_nonneg _ (by exact Int.pow_nonneg (ag))]
   simp
  simp only[execOp,hρ _ _ hx,hρ _ _ hy,eqGuard,binOp,Op.shift,ha,hb]
  have hb0:¬((b:Int)<0):=a8
  simp[Nat.min_eq_left hla,e,hb0]
theorem Iz {T U:TypeId}{x y:Operand}{k k':IntKind}{i j:Int}(hx:evo t x=some (.int k i)) (hy:evo t y=some (.int k' j)) (hk:k.signed=false) (a b:Nat) (ha:i=a) (hb:j=b):
 Ev G P ⟨dst, .binOp .shl T x y U,ty,pos,after,g⟩ t H (.int k ((a*2 ^ b % 2 ^ k.bits:Nat):Int)):=
 fun ρ hρ w _=> by
  have e:k.wrap ((a:Int)*2 ^ min b k.bits)=((a*2 ^ b % 2 ^ k.bits:Nat):Int):=by
   rw[show((a:Int)*2 ^ min b k.bits)=((a*2 ^ min b k.bits:Nat):Int)from aj,js hk]
   congr 1
   rcases Nat.le_total b k.bits with h|h
   ·rw[Nat.min_eq_left h]
   ·rw[Nat.min_eq_right h]
    obtain⟨c,rfl⟩:=Nat.le.dest h
    rw[Nat.pow_add]
    rw[show a*(2 ^ k.bits*2 ^ c)=a*2 ^ c*2 ^ k.bits by rw[Nat.mul_comm (2 ^ k.bits),Nat.mul_assoc]]
    simp
  simp only[execOp,hρ _ _ hx,hρ _ _ hy,eqGuard,binOp,Op.shift,ha,hb]
  have hb0:¬((b:Int)<0):=a8
  simp[e,hb0]
theorem FU {S D:TypeId}{ds:TypeDesc}{x:Operand}{k k':IntKind}{i:Int} [hs:Und P S ds] [hd:Und P D (.int k')] (hx:evo t x=some (.int k i)) (hk:k'.signed=false) (a:Nat) (ha:i=a):
 Ev G P ⟨dst, .convert S D x,ty,pos,after,g⟩ t H (.int k' ((a % 2 ^ k'.bits:Nat):Int)):=
 fun ρ hρ w _=> by
  have e:(underlying S).run P w= .ok ds w:=by simp[underlying,hs.out]
  have e2:(underlying D).run P w= .ok (.int k') w:=by simp[underlying,hd.out]
  simp only[execOp,convert,hρ _ _ hx,ha,Sem.run_bind,e,e2,Result.andThen_ok]
  cases ds <;> simp[Conv.intToInt,js hk]
theorem dS {S D:TypeId}{ds:TypeDesc}{x:Operand}{k:IntKind}{i:Int} [hs:Und P S ds] [hd:Und P D (.int .i64)] (hx:evo t x=some (.int k i)) (h: -9223372036854775808≤i∧i≤9223372036854775807):
 Ev G P ⟨dst, .convert S D x,ty,pos,after,g⟩ t H (.int .i64 i):=
 fun ρ hρ w _=> by
  have e:(underlying S).run P w= .ok ds w:=by simp[underlying,hs.out]
  have e2:(underlying D).run P w= .ok (.int .i64) w:=by simp[underlying,hd.out]
  simp only[execOp,convert,hρ _ _ hx,Sem.run_bind,e,e2,Result.andThen_ok]
  cases ds <;> simp[Conv.intToInt,iM h]
theorem iF {T U:TypeId}{x y:Operand}{k:IntKind}{i j:Int}(hx:evo t x=some (.int k i)) (hy:evo t y=some (.int k j)) (a b:Nat) (ha:i=a) (hb:j=b) (hp:0<b) (hla:(a:Int)≤k.max):
 Ev G P ⟨dst, .binOp .quo T x y U,ty,pos,after,g⟩ t H (.int k ((a / b:Nat):Int)):=
 fun ρ hρ w _=> by
  have h0:¬((b:Int)=0):=a8
  have hd:a / b≤a:=Nat.div_le_self a b
  have e:k.wrap ((a:Int).tdiv (b:Int))=((a / b:Nat):Int):=by
   rw[Int.tdiv_eq_ediv_of_nonneg (a8),←Int.natCast_ediv]
   generalize a / b=c at*
   cases k <;> simp[IntKind.max,IntKind.signed,IntKind.bits,IntKind.wrap]at hla⊢ <;> omega
  simp only[execOp,hρ _ _ hx,hρ _ _ hy,eqGuard,binOp,Op.intDiv,ha,hb]
  simp only[Sem.run_bind,Sem.run_pure,ne_eq,not_true_eq_false,↓reduceIte,h0,e]
  rfl
theorem gQ {T U:TypeId}{x y:Operand}{k:IntKind}{i j:Int}(hx:evo t x=some (.int k i)) (hy:evo t y=some (.int k j)) (a b:Nat) (ha:i=a) (hb:j=b) (hp:0<b):
 Ev G P ⟨dst, .binOp .rem T x y U,ty,pos,after,g⟩ t H (.int k ((a % b:Nat):Int)):=
 fun ρ hρ w _=> by
  have h0:¬((b:Int)=0):=a8
  have e:(a:Int).tmod (b:Int)=((a % b:Nat):Int):=by
   rw[Int.tmod_eq_emod_of_nonneg (a8)];simp
  simp only[execOp,hρ _ _ hx,hρ _ _ hy,eqGuard,binOp,Op.intDiv,ha,hb]
  simp only[Sem.run_bind,Sem.run_pure,ne_eq,not_true_eq_false,↓reduceIte,h0,e]
  rfl
theorem uD {x y:Operand}{ats:Array TypeId}{k:IntKind}{a b:Int}(hx:evo t x=some (.int k a)) (hy:evo t y=some (.int k b)):
 Ev G P ⟨dst, .call ⟨.builtin .min, #[x,y],ats⟩,ty,pos,after,g⟩ t H (.int k (min a b)):=
 fun ρ hρ w _=> by
  have e:(if b<a then b else a)=min a b:=by rw[Int.min_def];split <;> split <;> omega
  simp[execOp,resolve,invoke,builtin,Builtin.min_,Builtin.min2,hρ _ _ hx,hρ _ _ hy,e]
theorem Ld {x y:Operand}{ats:Array TypeId}{k:IntKind}{a b:Int}(hx:evo t x=some (.int k a)) (hy:evo t y=some (.int k b)):
 Ev G P ⟨dst, .call ⟨.builtin .max, #[x,y],ats⟩,ty,pos,after,g⟩ t H (.int k (max a b)):=
 fun ρ hρ w _=> by
  have e:(if b > a then b else a)=max a b:=by rw[Int.max_def];split <;> split <;> omega
  simp[execOp,resolve,invoke,builtin,Builtin.max_,Builtin.max2,hρ _ _ hx,hρ _ _ hy,e]
end
theorem iK (b o n:Nat):(⟨b,o,none⟩:Addr).add n=⟨b,o+n,none⟩:=by
 unfold Addr.add;split <;> simp_all
theorem nn {w:World}{b o:Nat}{C:Array Value}{E:TypeId}{fz:Nat×Nat}(h:w.heap[b]? =some (.cells C E fz)):w.cell? ⟨b,o,none⟩=C[o]? :=by
 simp[World.cell?,h]
theorem CJ {w:World}{b o:Nat}{C:Array Value}{E:TypeId}{fz:Nat×Nat}(h:w.heap[b]? =some (.cells C E fz)):w.frozen? ⟨b,o,none⟩=(decide (fz.1≤o) && decide (o<fz.2)):=by
 simp[World.frozen?,h]
def er (w:World) (b:Nat) (o:Obj):World:={w with heap:=w.heap.setIfInBounds b o}
theorem zD {w:World}{b o:Nat}{C:Array Value}{E:TypeId}{fz:Nat×Nat}(h:w.heap[b]? =some (.cells C E fz)) (v:Value):
 w.setCell ⟨b,o,none⟩ v=er w b (.cells (C.setIfInBounds o v) E fz):=by
 unfold World.setCell er
 congr 1
 obtain⟨hlt,hb⟩:=Array.getElem?_eq_some_iff.1 h
 apply Array.ext_getElem?
 intro i
 rw[Array.getElem?_modify,Array.getElem?_setIfInBounds]
 by_cases e:b=i
 ·subst e;simp[hlt,hb]
 ·simp[e]
theorem gu {w:World}{b:Nat}{o o':Obj}(h:w.heap[b]? =some o):(er w b o').heap[b]? =some o':=by
 have hlt:=(Array.getElem?_eq_some_iff.1 h).1
 simp[er,hlt]
theorem fI {w:World}{b i:Nat}{o':Obj}(h:i≠b):(er w b o').heap[i]? =w.heap[i]? :=by
 simp[er,Ne.symm h]
theorem uS (w:World) (b:Nat) (o o':Obj):er (er w b o) b o'=er w b o':=by
 simp[er]
theorem xO {w:World}{b:Nat}{o:Obj}(h:w.heap[b]? =some o):er w b o=w:=by
 have:w.heap.setIfInBounds b o=w.heap:=by
  apply Array.ext_getElem?
  intro i
  rw[Array.getElem?_setIfInBounds]
  obtain⟨hlt,hb⟩:=Array.getElem?_eq_some_iff.1 h
  by_cases e:b=i
  ·subst e;simp[hlt,hb]
  ·simp[e]
 unfold er
 rw[this]
def fk (C:Array Value) (o:Nat):List Value→Array Value
 | []=> C
 |v::vs=> fk (C.setIfInBounds o v) (o+1) vs
theorem fT (vs:List Value):∀(C:Array Value) (o:Nat),(fk C o vs).size=C.size:=by
 induction vs with
 |nil=> intro C o;rfl
 |cons v vs ih=> intro C o;simp[fk,ih]
theorem gO (vs:List Value):∀(C:Array Value) (o j:Nat),o+vs.length≤C.size→(fk C o vs)[j]? =if o≤j∧j<o+vs.length then vs[j - o]? else C[j]? :=by
 induction vs with
 |nil=> intro C o j _;simp[fk];omega
 |cons v vs ih=>
  intro C o j h
  simp only[Yb]at h
  simp only[fk,Yb]
  rw[ih _ _ _ (au)]
  by_cases h1:j=o
  ·subst h1
   rw[if_neg (a8),if_pos (a8)]
   simp[show j<C.size from a8]
  ·by_cases h2:o+1≤j∧j<o+1+vs.length
   ·rw[if_pos h2,if_pos (a8)]
    rw[show j - o=(j - (o+1))+1 from a8,Xc]
   ·rw[if_neg h2,if_neg (a8)]
    simp[Ne.symm h1]
theorem q9 (C:Array Value) (o:Nat) (vs:List Value) (h:o+vs.length≤C.size):(fk C o vs).toList=C.toList.take o++vs++C.toList.drop (o+vs.length):=by
 apply List.ext_getElem?
 intro j
 rw[Array.getElem?_toList,gO _ _ _ _ h]
 have hl:C.toList.length=C.size:=aj
 by_cases h1:j<o
 ·rw[if_neg (a8),Yf,Yv (au),List.getElem?_take_of_lt h1];simp
 ·by_cases h2:j<o+vs.length
  ·rw[if_pos (a8),Yf,Yu (au),Yv (au)]
   congr 1
   simp;omega
  ·rw[if_neg (a8),Yu (au),Xh]
   simp only[Ya,Yg,Array.getElem?_toList,hl]
   congr 1
   omega
theorem fS {P:Program}{b o:Nat}{E:TypeId}{fz:Nat×Nat}:∀(vs:List Value) (i:Nat) (C:Array Value) (w:World),w.heap[b]? =some (.cells C E fz)→
 (∀j,o+i≤j→j<o+i+vs.length→¬(fz.1≤j∧j<fz.2))→o+i+vs.length≤C.size→(∀v∈vs,v.oneCell'=true)→
 (storeCells ⟨b,o,none⟩ vs i).run P w= .ok () (er w b (.cells (fk C (o+i) vs) E fz)):=by
 intro vs
 induction vs with
 |nil=>
  intro i C w hb _ _ _
  simp[storeCells,fk,xO hb]
 |cons v vs ih=>
  intro i C w hb hfz hle hone
  simp only[Yb]at hfz hle
  have h1:w.cell? ⟨b,o+i,none⟩=some (C[o+i]'(a8)):=by
   rw[nn hb];simp[show o+i<C.size from a8]
  have h2:w.frozen? ⟨b,o+i,none⟩=false:=by
   rw[CJ hb]
   have:=hfz (o+i) (a8) (a8)
   simpa using this
  simp only[storeCells,Sem.run_bind,iK,run_store P w _ v _ (hone v (aj)),h1,h2]
  simp only[Bool.false_eq_true,↓reduceIte,Result.andThen_ok]
  rw[zD hb,ih (i+1) _ _ (gu hb) (fun j h3 h4=> hfz j (a8) (a8)) (au) (fun u hu=> hone u (Xa _ hu)),uS]
  rfl
theorem eO {P:Program}{w:World}{b o:Nat}{C:Array Value}{E:TypeId}{fz:Nat×Nat}(hb:w.heap[b]? =some (.cells C E fz)) (cs:List Value) (h:∀j v,cs[j]? =some v→C[o+j]? =some v):
 (loadCells ⟨b,o,none⟩ cs.length).run P w= .ok cs.toArray w:=by
 exact run_loadCells_list w _ cs (fun j v hv=> by rw[iK,nn hb];exact h j v hv)
class Cut (l:List Value) (off n:Nat) (cs:outParam (List Value)):Prop where
 out:∀j v,cs[j]? =some v→l[off+j]? =some v
 len:cs.length=n
instance Cut.skip {x:Value}{l:List Value}{off n:Nat}{cs:List Value} [h:Cut l off n cs]:Cut (x::l) (off+1) n cs:=
 ⟨fun j v hv=> by rw[show off+1+j=(off+j)+1 from a8,Xc];exact h.out j v hv,h.len⟩
instance Cut.take {x:Value}{l:List Value}{n:Nat}{cs:List Value} [h:Cut l 0 n cs]:Cut (x::l) 0 (n+1) (x::cs):=
 ⟨fun j v hv=> by
  cases j with
  |zero=> simpa using hv
  |succ j=> rw[show 0+(j+1)=(0+j)+1 from a8,Xc];exact h.out j v (by simpa using hv),by simp[h.len]⟩
instance Cut.nil {l:List Value}:Cut l 0 0 []:=⟨fun j v hv=> by simp at hv,rfl⟩
class Spl (l:List Value) (off:Nat) (vs:List Value) (l':outParam (List Value)):Prop where
 fit:off+vs.length≤l.length
 out:∀C:Array Value,C.toList=l→(fk C off vs).toList=l'
theorem Spl.eq {l:List Value}{off:Nat}{vs l':List Value} [h:Spl l off vs l']:l'=l.take off++vs++l.drop (off+vs.length):=by
 have h1:=h.fit
 rw[←h.out l.toArray (aj),q9 _ _ _ (cx)]
theorem th {l:List Value}{off:Nat}{vs l':List Value}(h:off+vs.length≤l.length) (he:l'=l.take off++vs++l.drop (off+vs.length)):Spl l off vs l':=
 ⟨h,fun C hC=> by rw[q9 _ _ _ (by subst hC;simpa using h),hC,he]⟩
instance Spl.skip {x:Value}{l:List Value}{off:Nat}{vs l':List Value} [h:Spl l off vs l']:Spl (x::l) (off+1) vs (x::l'):=
 th (by have:=h.fit;simp;omega) (by rw[h.eq];simp[show off+1+vs.length=(off+vs.length)+1 from a8])
instance Spl.here {x v:Value}{l:List Value}{vs l':List Value} [h:Spl l 0 vs l']:Spl (x::l) 0 (v::vs) (v::l'):=
 th (by have:=h.fit;simp;omega) (by rw[h.eq];simp)
instance Spl.nil {l:List Value}:Spl l 0 [] l:=th (aj) (aj)
class nA (v:Value) (l:outParam (List Value)):Prop where
 out:v.cells=l.toArray
 one:∀u∈l,u.oneCell'=true
class sG (v:Value):Prop where
 out:v.oneCell'=true
instance {b:Bool}:sG (.bool b):=⟨rfl⟩
instance {k:IntKind}{n:Int}:sG (.int k n):=⟨rfl⟩
instance {s:ByteArray}:sG (.string s):=⟨rfl⟩
instance {a:Option Addr}:sG (.pointer a):=⟨rfl⟩
instance {a:Option Addr}{n c:Nat}:sG (.slice a n c):=⟨rfl⟩
instance {r:Option Nat}:sG (.map r):=⟨rfl⟩
instance:sG .nilIface:=⟨rfl⟩
class xe (l:List Value):Prop where
 out:∀u∈l,u.oneCell'=true
instance:xe []:=⟨fun _ h=> bC⟩
instance {v:Value}{l:List Value} [h:sG v] [h2:xe l]:xe (v::l):=⟨fun u hu=> by
 rcases List.mem_cons.1 hu with rfl|hu
 ·exact h.out
 ·exact h2.out u hu⟩
instance (priority:=low) nA.single {v:Value} [h:sG v]:nA v [v]:=⟨by
 have:=h.out
 cases v <;> simp_all [Value.oneCell',Value.cells],fun u hu=> by simp at hu;subst hu;exact h.out⟩
instance nA.agg {l:List Value} [h:xe l]:nA (.agg l.toArray) l:=⟨rfl,h.out⟩
class xf (a b:Nat) (c:outParam Nat):Prop where
 out:a+b=c
instance xf.zero {a:Nat}:xf a 0 a:=⟨rfl⟩
instance xf.succ {a n c:Nat} [h:xf a n c]:xf a (n+1) (c+1):=⟨by have:=h.out;omega⟩
def Vr (b:Nat) (l:List Value):Hp:=fun L=> ∃E,L= [(b, .cells l.toArray E (0,0))]
class dh (H:cG) (b:Nat) (l:outParam (List Value)):Prop where
 mem:∀L,Sep H L→∃E fz,(b,Obj.cells l.toArray E fz)∈L
instance dh.tail {A:Hp}{H:cG}{b:Nat}{l:List Value} [h:dh H b l]:dh (A::H) b l:=
 ⟨fun L hL=> by obtain⟨L1,L2,rfl,_,h2⟩:=hL;obtain⟨E,fz,hm⟩:=h.mem _ h2;exact⟨E,fz,Yx _ hm⟩⟩
instance dh.head {H:cG}{b:Nat}{l:List Value}:dh (Vr b l::H) b l:=
 ⟨fun L hL=> by obtain⟨L1,L2,rfl,⟨E,rfl⟩,_⟩:=hL;exact⟨E,(0,0),aj⟩⟩
theorem dh.get {G:cM}{w:World}{H:cG}{b:Nat}{l:List Value}(h:dh H b l) (hs:Sat G w H):∃E fz,w.heap[b]? =some (.cells l.toArray E fz):=by
 obtain⟨_,L,hL,hl⟩:=hs
 obtain⟨E,fz,hm⟩:=h.mem L hL
 exact⟨E,fz,hl.at_ _ hm⟩
theorem FK {G:cM}{w:World}{H:cG}{b:Nat}{l:List Value}{C:Hp→cG}(h:Foc H Vr b l C) (hs:Sat G w H):∃E,w.heap[b]? =some (.cells l.toArray E (0,0))∧Sat G w (C (Pt b (.cells l.toArray E (0,0)))):=by
 obtain⟨hS,L,hL,hl⟩:=hs
 obtain⟨L1,M,L2,rfl,⟨E,rfl⟩,hB⟩:=h.foc _ hL
 exact⟨E,hl.at_ (b, .cells l.toArray E (0,0)) (aj),hS,_,hB (Pt b _) _ rfl,hl⟩
theorem Gr {G:cM}{w w':World}{H:cG}{b:Nat}{l:List Value}{C:Hp→cG}(h:Foc H Vr b l C) (hs:Sat G w H) {o:Obj}{B:Hp}(hB:∀M,M= [(b,o)]→B M)
 (hS:AD G w') (hb:w'.heap[b]? =some o) (hk:∀i,i≠b→i<w.heap.size→w'.heap[i]? =w.heap[i]?):Sat G w' (C B):=by
 obtain⟨_,L,hL,hl⟩:=hs
 obtain⟨L1,M,L2,rfl,⟨E',rfl⟩,hC⟩:=h.foc _ hL
 have h1:=hl.at_ (b, .cells l.toArray E' (0,0)) (aj)
 exact⟨hS,_,hC B [(b,o)] (hB _ rfl),kD.change (bA) hb hk⟩
section
variable {G:cM}{P:Program}{t:Tm}{H:cG}{dst:Option Tmp}{ty:TypeId}{pos:String}{after:Array Edge}{g:Option (Nat×Bool)}
theorem ik {T:TypeId} [h:One P T] (w:World):(isAgg T).run P w= .ok false w:=by
 obtain⟨d,hd,hm⟩:=h.out
 cases d <;> simp_all [isAgg,underlying]
theorem re {T:TypeId}{n:Nat} [h:Agg P T n] (w:World):(isAgg T).run P w= .ok true w:=by
 obtain⟨d,i,hd,hm,_⟩:=h.out
 cases d <;> simp_all [isAgg,underlying]
theorem lf {T:TypeId}{n:Nat} [h:Agg P T n] (w:World):(sizeOf T).run P w= .ok n w:=by
 obtain⟨d,i,_,_,hi,hn⟩:=h.out
 simp[sizeOf,typeInfo,hi,hn]
theorem dZ {T:TypeId}{s b:Nat}{z:Value} [h:Inf P T s b z] (w:World):(sizeOf T).run P w= .ok s w:=by
 obtain⟨i,hi,hn,_,_⟩:=h.out
 simp[sizeOf,typeInfo,hi,hn]
theorem kx {T:TypeId}{s b:Nat}{z:Value} [h:Inf P T s b z] (w:World):(zeroValue T).run P w= .ok z w:=by
 obtain⟨i,hi,_,_,hz⟩:=h.out
 simp[zeroValue,typeInfo,hi,hz]
theorem IH {T:TypeId}{x:Operand}{b off:Nat}{l:List Value}{v:Value}(hx:evo t x=some (.pointer (some ⟨b,off,none⟩))) [hT:One P T] [hH:dh H b l] [hc:Cut l off 1 [v]]:
 Ev G P ⟨dst, .load T x,ty,pos,after,g⟩ t H v:=
 fun ρ hρ w hw=> by
  obtain⟨E,fz,hb⟩:=hH.get hw
  have h1:w.cell? ⟨b,off,none⟩=some v:=by rw[nn hb];simpa using hc.out 0 v rfl
  simp[execOp,hρ _ _ hx,Instr.loadAt,Instr.sureAddr,loadVar,ik,h1]
theorem FR {T:TypeId}{x:Operand}{b off n:Nat}{l cs:List Value}(hx:evo t x=some (.pointer (some ⟨b,off,none⟩))) [hT:Agg P T n] [hH:dh H b l] [hc:Cut l off n cs]:
 Ev G P ⟨dst, .load T x,ty,pos,after,g⟩ t H (.agg cs.toArray):=
 fun ρ hρ w hw=> by
  obtain⟨E,fz,hb⟩:=hH.get hw
  have h1:=eO (P:=P) (o:=off) hb cs (fun j v hv=> by simpa using hc.out j v hv)
  rw[hc.len]at h1
  simp[execOp,hρ _ _ hx,Instr.loadAt,Instr.sureAddr,loadVar,re,lf (n:=n),h1]
theorem dk {T:TypeId}{x y:Operand}{b off s bb:Nat}{z v:Value}{l l' cs:List Value}{C:Hp→cG}(hx:evo t x=some (.pointer (some ⟨b,off,none⟩))) (hy:evo t y=some v)
 [hT:Inf P T s bb z] [hv:nA v cs] [hf:Foc H Vr b l C] [hl:Spl l off cs l'] (hs:cs.length=s):
 St G P ⟨dst, .store T x y,ty,pos,after,g⟩ t H (fun u H'=> u=undef∧H'=C (Vr b l')):=
 fun ρ hρ w hw=> by
  obtain⟨E,hb,_⟩:=FK hf hw
  have hfit:=hl.fit
  have h1:=fS (P:=P) (o:=off) cs 0 l.toArray w hb (fun j _ _=> aj) (by simpa using hfit) hv.one
  have hn:v.cells.size=s:=by rw[hv.out];simpa using hs
  have hr:(execOp ρ ⟨dst, .store T x y,ty,pos,after,g⟩).run P w= .ok .skip (er w b (.cells (fk l.toArray off cs) E (0,0))):=by
   simp only[execOp,hρ _ _ hx,hρ _ _ hy,Instr.storeAt,Instr.sureAddr,storeVar,Sem.run_bind,Sem.run_pure,Result.andThen_ok,dZ (T:=T),hn]
   simp only[ne_eq,not_true_eq_false,↓reduceIte]
   rw[hv.out]
   simp only[Nat.add_zero]at h1⊢
   rw[h1];rfl
  rw[hr]
  refine⟨_,?_,rfl,rfl⟩
  refine Gr hf hw (o:= .cells (fk l.toArray off cs) E (0,0)) (fun M hM=> ⟨E,?_⟩) ⟨hw.1.os,hw.1.tape,hw.1.output⟩ (gu hb) (fun i hi _=> fI hi)
  rw[hM,←hl.out l.toArray (aj)]
theorem wV {T:TypeId}{x:Operand}{k b o off o':Nat}(hx:evo t x=some (.pointer (some ⟨b,o,none⟩))) [hf:Fld P T k off] [ha:xf o off o']:
 Ev G P ⟨dst, .fieldAddr T x k,ty,pos,after,g⟩ t H (.pointer (some ⟨b,o',none⟩)):=
 fun ρ hρ w _=> by
  obtain⟨fs,f,i,h1,h2,h3,h4,h5⟩:=hf.out
  rw[←ha.out]
  simp[execOp,hρ _ _ hx,Instr.fieldAt,underlying,h1,h2,Instr.sureAddr,fieldPlace,sizeOf,typeInfo,h4,h5,h3,iK]
theorem wq {T:TypeId}{x:Operand}{v:Value}{l:List Value}(hx:evo t x=some v) [hv:nA v l]:
 St G P ⟨dst, .box T x,ty,pos,after,g⟩ t H (fun u H'=> ∃b,u= .pointer (some ⟨b,0,none⟩)∧H'=Vr b l::H):=
 fun ρ hρ w hw=> by
  have hr:(execOp ρ ⟨dst, .box T x,ty,pos,after,g⟩).run P w= .ok (.value (.pointer (some ⟨w.heap.size,0,none⟩))) {w with heap:=w.heap.push (.cells l.toArray T)}:=by
   simp[execOp,hρ _ _ hx,Instr.box,newVar,newRow,hv.out]
  rw[hr]
  exact⟨_,(hw.alloc _).cons (fun M hM=> ⟨T,hM⟩),w.heap.size,rfl,rfl⟩
theorem kr {T:TypeId}{s bb:Nat}{z:Value}{l:List Value} [hT:Inf P T s bb z] [hv:nA z l]:
 St G P ⟨dst, .alloc T,ty,pos,after,g⟩ t H (fun u H'=> ∃b,u= .pointer (some ⟨b,0,none⟩)∧H'=Vr b l::H):=
 fun ρ hρ w hw=> by
  have hr:(execOp ρ ⟨dst, .alloc T,ty,pos,after,g⟩).run P w= .ok (.value (.pointer (some ⟨w.heap.size,0,none⟩))) {w with heap:=w.heap.push (.cells l.toArray T)}:=by
   simp[execOp,Instr.alloc,kx (T:=T),newVar,newRow,hv.out]
  rw[hr]
  exact⟨_,(hw.alloc _).cons (fun M hM=> ⟨T,hM⟩),w.heap.size,rfl,rfl⟩
end
end Go.Sx
