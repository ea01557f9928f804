import Derived.Test.YtjhdcheijnegnaaGreatDoorQ6
import Derived.Laws.IdiomStrings
import Derived.Maps.RangeRun
import Derived.Laws.Cover1
import Derived.ScopeJumps
set_option linter.all false
set_option maxHeartbeats 0
namespace Go.Sx
open Go
section
variable {E T:TypeId}{ats:Array TypeId}{e:Array Value→Sem Value}{f:FuncId}{fn:Func}{q:ByteArray}{v:Value}{vs:List Value}{x:Operand}{xs:List Operand}
section
variable {G:cJ}{P:Program}{N:Nat}{Q:Post}{t:Tm}{H:cG}{ops:Array Oper}{dst:Option Tmp}{ty:TypeId}{pos:String}{after:Array Edge}{g:Option (Nat×Bool)}{l:List Oper}
theorem qp {a:Operand}{b:String}{ws:List Value}{K:Value→cG→Prop}(hr:evo t a=some (.iface T v)) (hx:oP t xs=some vs) (hm:∀w,(callMethod (.iface T v) b vs.toArray).run P w=.ok (.enter f ws.toArray) w) (hc:SC G P f ws H K):St G P ⟨dst,.call ⟨.invoke a b,xs.toArray,ats⟩,ty,pos,after,g⟩ t H K:=by
 intro ρ hρ w c;have h1:=hρ _ _ hr;have h2:xs.toArray.map ρ=vs.toArray:=bD;have:(execOp ρ ⟨dst,.call ⟨.invoke a b,xs.toArray,ats⟩,ty,pos,after,g⟩).run P w=.ok (.enter f ws.toArray) w:=by
  simp only[execOp,resolve,h1,h2,Sem.run_bind,Sem.run_pure,Result.andThen_ok,invoke];have e:(#[Value.iface T v]++vs.toArray)[0]? =some (Value.iface T v):=ak;have d:(#[Value.iface T v]++vs.toArray).extract 1 (#[Value.iface T v]++vs.toArray).size=vs.toArray:=ak;simp only[e,d];exact hm w
 rw[this];exact hc.call w c
structure MvE (es:List MapEntry) (clock:Nat) (kv:List (ByteArray×Value)):Prop where
 stamped:MapKept.Stamped es.toArray clock
 keys:es.map (·.key)=kv.map λp=>Value.string p.1
 vals:es.map (·.val)=kv.map (·.2)
def Mv (r:Nat) (kv:List (ByteArray×Value)):Hp:=λL=>∃(es:List MapEntry) (clock:Nat),L= [(r,.map es.toArray clock)]∧MvE es clock kv
theorem mL (k:ByteArray):∀(kv:List (ByteArray×Value)) (es:List MapEntry) (i:Nat),es.map (·.key)=kv.map (λp=>Value.string p.1)→es.map (·.val)=kv.map (·.2)→
 (∃j v,kv[j]? =some (k,v)∧Instr.findNow .string (.string k) es i=some (some (i+j,v)))∨(k ∉ kv.map (·.1)∧Instr.findNow .string (.string k) es i=some none)
 | [],es,i,h,_=>by
  obtain rfl:es= []:=bM;exact .inr ⟨ak,rfl⟩
 |q::ks, [],i,h,_=>aU
 |q::ks,e::es,i,h,hv=>by
  simp only[Xn,List.cons.injEq]at h hv;obtain⟨h1,h2⟩:=h;obtain⟨h3,h4⟩:=hv;have c:Instr.findNow .string (.string k) (e::es) i=match Instr.sameNow .string (.string k) (.string q.1)with
   |some true=>some (some (i,e.val))
   |some false=>Instr.findNow .string (.string k) es (i+1)
   |none=>none:=by rw[←h1];rfl
  rw[c]
  by_cases hk:k=q.1
  ·subst hk;have a:(q.1==q.1)=true:=(MapKept.bytes_beq q.1 q.1).2 rfl;left;simp only[Instr.sameNow,a];exact⟨0,q.2,ak,by rw[h3];rfl⟩
  ·have a:(k==q.1)=false:=by
    cases h:(k==q.1)with
    |false=>rfl
    |true=>exact absurd ((MapKept.bytes_beq k q.1).1 h) hk
   simp only[Instr.sameNow,a];rcases mL k ks es (i+1) h2 h4 with⟨j,v,b,h6⟩|⟨b,h6⟩
   ·exact .inl ⟨j+1,v,by simpa using b,by rw[h6];simp only[Option.some.injEq,Prod.mk.injEq,and_true];omega⟩
   ·exact .inr ⟨λh=>by
     rcases Xr.1 h with h|h
     ·exact hk h
     ·exact b h,h6⟩
theorem Cf {K:TypeId}{k:IntKind}{i:Int} [hT:Und P T (.map K E)] (hx:evo t x=some (.int k i)):
 St G P ⟨dst,.makeMap T (some x),ty,pos,after,g⟩ t H (λu b=>∃r,u=.map (some r)∧b=Mv r []::H):=
 fun ρ hρ w hw=>by
  have hr:(execOp ρ ⟨dst,.makeMap T (some x),ty,pos,after,g⟩).run P w=.ok (.value (.map (some w.heap.size))) {w with heap:=w.heap.push (.map #[] 0)}:=by
   simp only[execOp,Vd,Instr.makeMap,hρ _ _ hx,Sem.run_bind,cS (T:=T),Result.andThen_ok,asInt,asIntOf,Sem.run_pure,run_newObj]
  rw[hr];exact⟨_,(hw.alloc _).cons λ_ a=>⟨[],0,a,⟨MapKept.stamped_empty 0,rfl,rfl⟩⟩,w.heap.size,rfl,rfl⟩
theorem sI:
 St G P ⟨dst,.makeMap T none,ty,pos,after,g⟩ t H (λu b=>∃r,u=.map (some r)∧b=Mv r []::H):=
 fun ρ hρ w hw=>by
  have hr:(execOp ρ ⟨dst,.makeMap T none,ty,pos,after,g⟩).run P w=.ok (.value (.map (some w.heap.size))) {w with heap:=w.heap.push (.map #[] 0)}:=by
   simp only[execOp,Option.map_none,Instr.makeMap,Sem.run_bind,Result.andThen_ok,Sem.run_pure,run_newObj]
  rw[hr];exact⟨_,(hw.alloc _).cons λ_ a=>⟨[],0,a,⟨MapKept.stamped_empty 0,rfl,rfl⟩⟩,w.heap.size,rfl,rfl⟩
theorem AU {K:TypeId}{y:Operand}{r sz bb:Nat}{z:Value}{ok:Bool}{c:List (ByteArray×Value)}{s:ByteArray}{C:Hp→cG} [hT:Und P T (.map K E)] [d:Und P K .string] [hE:Inf P E sz bb z] (hx:evo t x=some (.map (some r))) (hy:evo t y=some (.string s)) [hf:Foc H Mv r c C]:
 St G P ⟨dst,.lookup T x y ok,ty,pos,after,g⟩ t H (λu k=>k=H∧((∃(i:Nat) (v:Value),c[i]? =some (s,v)∧u=if ok then .tuple #[v,.bool true]else v)∨(s ∉ c.map (·.1)∧u=if ok then .tuple #[z,.bool false]else z))):=
 fun ρ hρ w hw=>by
  obtain⟨h,L,hL,hl⟩:=hw;obtain⟨L1,M,L2,rfl,⟨e,a,rfl,hk⟩,hB⟩:=hf.foc _ hL;have j:w.heap[r]? =some (.map e.toArray a):=hl.at_ (r,.map e.toArray a) ak;have f:=MapKept.run_getObj_map (P:=P) j;have b:=MapKept.run_checkKey (P:=P) (w:=w) d.out (lP s);rcases mL s c e 0 hk.keys hk.vals with⟨i,v,h1,h2⟩|⟨h1,h2⟩
  ·have h3:=MapKept.run_findKey (P:=P) (w:=w) d.out h2;have hr:(execOp ρ ⟨dst,.lookup T x y ok,ty,pos,after,g⟩).run P w=.ok (.value (if ok then .tuple #[v,.bool true]else v)) w:=by
    cases ok <;> simp only[execOp,hρ _ _ hx,hρ _ _ hy,Instr.lookup,Sem.run_bind,cS (T:=T),Result.andThen_ok,f,Sem.run_pure,b,h3,↓reduceIte,Xp]
   rw[hr];exact⟨H,⟨h,_,hL,hl⟩,rfl,.inl ⟨i,v,h1,rfl⟩⟩
  ·have h3:=MapKept.run_findKey (P:=P) (w:=w) d.out h2;have hr:(execOp ρ ⟨dst,.lookup T x y ok,ty,pos,after,g⟩).run P w=.ok (.value (if ok then .tuple #[z,.bool false]else z)) w:=by
    cases ok <;> simp only[execOp,hρ _ _ hx,hρ _ _ hy,Instr.lookup,Sem.run_bind,cS (T:=T),Result.andThen_ok,f,Sem.run_pure,b,h3,gY (T:=E),↓reduceIte,Xp]
   rw[hr];exact⟨H,⟨h,_,hL,hl⟩,rfl,.inr ⟨h1,rfl⟩⟩
theorem JR {S D:TypeId} [d:Und P S .string] [h:Und P D (.slice E)] [f:Und P E (.int .u8)] (hx:evo t x=some (.string q)):
 St G P ⟨dst,.convert S D x,ty,pos,after,g⟩ t H (λu i=>∃s:SV,u=s.val∧i=Row s eB (cF q)::H):=
 fun ρ hρ w hw=>by
  have h1:=run_bytes_of_string (P:=P) w S D E q d.out h.out f.out;have a:q.size≤grownCap w q.size 0 E:=by unfold grownCap;simp only[Question.cut];omega
  have hr:(execOp ρ ⟨dst,.convert S D x,ty,pos,after,g⟩).run P w=.ok (.value (.slice (some ⟨w.heap.size,0,none⟩) q.size (grownCap w q.size 0 E))) (w.drew.alloc (.cells (bytesRow q (grownCap w q.size 0 E)) E ((bytesRow q (grownCap w q.size 0 E)).size,(bytesRow q (grownCap w q.size 0 E)).size+1))):=by
   simp only[execOp,hρ _ _ hx,Sem.run_bind,h1,Result.andThen_ok,Sem.run_pure]
  rw[hr];have hw':Sat G w.drew H:=hw.same rfl ⟨hw.1.os,hw.1.tape,hw.1.output⟩;refine⟨_,(hw'.alloc _).cons (B:=Row ⟨some ⟨w.heap.size,0,none⟩,q.size,grownCap w q.size 0 E⟩ eB (cF q)) λL e=>.inr ⟨w.heap.size,_,_,_,rfl,(cI q).symm,a,e,?_,.inr (Xj _),?_⟩,_,rfl,rfl⟩
  ·have c:q.data.size=q.size:=rfl;simp only[bytesRow,Array.size_append,Array.size_map,Array.size_replicate,show eB.sz=1 from rfl,c];omega
  ·intro j v hv;rw[Ac]at hv;have hj:=(Yk.1 hv).1;simp only[Yh,cI]at hj;have c:j<(q.data.map (λb=>Value.int .u8 b.toNat)).size:=by simpa using hj
   rw[bytesRow,Uw c,←hv];simp[cF];rfl
def eBo:Enc Bool:=⟨λb=>[.bool b],1,false,λ_=>rfl,λ_ v h=>aT,ae,λ_=>rfl,ae⟩
instance {b:Bool}:i6 eBo (.bool b) b:=⟨rfl⟩
instance {b:Bool}:kX eBo b (.bool b):=⟨rfl⟩
theorem zB (hf:P.funcs[f]? =some fn) (b:(fn.name== "runtime.NumGoroutine")=false) (c:fn.body=none) (h1:Extern.findNext fn=none) (h2:Extern.find fn=some e) (a:Array Value) (w:World):
 (callFunc f a).run P w=((e a).run P w).andThen λv w=>.ok (.value v) w:=by
 simp only[callFunc,Sem.run_bind,run_program,Result.andThen_ok,hf,b,c,h1,h2,Option.isNone_none,↓reduceIte,Xp];rfl
theorem vR (hf:P.funcs[f]? =some fn) (b:(fn.name== "runtime.NumGoroutine")=false) (c:fn.body=none) (h1:Extern.findNext fn=none) (h2:Extern.find fn=some e) (hx:oP t xs=some vs) (he:∀w,(e vs.toArray).run P w=.ok v w):St G P ⟨dst,.call ⟨.value (.func f),xs.toArray,ats⟩,ty,pos,after,g⟩ t H (λu d=>u=v∧d=H):=by
 intro ρ hρ w a;have h3:ρ (.func f)=.func (.func f) #[] #[]:=hρ _ _ rfl;have h4:xs.toArray.map ρ=vs.toArray:=bD;have:(execOp ρ ⟨dst,.call ⟨.value (.func f),xs.toArray,ats⟩,ty,pos,after,g⟩).run P w=.ok (.value v) w:=by
  simp only[execOp,resolve,h3,h4,Deferred.ofValue,Sem.run_bind,Sem.run_pure,Result.andThen_ok];simp only[invoke,Array.append_empty,Array.empty_append];rw[zB hf b c h1 h2,he];rfl
 rw[this];exact⟨H,a,rfl,rfl⟩
def ixR (q:ByteArray) (x:Nat):Int:=match (List.range q.size).find? λi=>q[i]! ==UInt8.ofNat x with
 |some i=>(i:Int)
 |none=>-1
theorem AY (q:ByteArray) (x:Nat) (w:World):(Extern.BytealgIndexByte.indexByte #[.string q,.int .u8 (x:Int)]).run P w=.ok (.int .i64 (ixR q x)) w:=by
 have h:Extern.BytealgIndexByte.indexByte #[.string q,.int .u8 (x:Int)]=(match (List.range q.size).find? λi=>q[i]! ==(x:Int).toNat.toUInt8 with
  |some i=>(pure (goInt i):Sem Value)
  |none=>pure (goInt (-1))):=rfl
 rw[h,ixR];have e:(x:Int).toNat.toUInt8=UInt8.ofNat x:=rfl;rw[e];cases(List.range q.size).find? λi=>q[i]! ==UInt8.ofNat x with
 |none=>rfl
 |some i=>rfl
theorem mG {x:Nat}(hx:x<256):0≤ixR q x↔x∈cF q:=by
 unfold ixR;cases h:(List.range q.size).find? λi=>q[i]! ==UInt8.ofNat x with
 |none=>
  rw[List.find?_eq_none]at h;simp only[Int.reduceNeg,Int.reduceLE,false_iff];intro hm;obtain⟨i,hi⟩:=Vy.1 hm;have a:=(Yk.1 hi).1;rw[cI]at a;have h2:=h i (by simpa using a);apply h2;have h3:q[i]! =q[i]:=by simp[a]
  rw[h3,beq_iff_eq];rw[cF,Xd]at hi;have h4:q.data.toList[i]? =some q[i]:=by
   rw[Yi (by simpa using a)];rfl
  rw[h4]at hi;simp only[Vd,Option.some.injEq]at hi;rw[←hi];simp
 |some i=>
  have h1:=List.find?_some h;have h2:=List.mem_of_find?_eq_some h;have a:i<q.size:=by simpa using h2
  have h3:q[i]! =q[i]:=by simp[a]
  rw[h3,beq_iff_eq]at h1
  constructor
  ·intro _;apply Vy.2;refine⟨i,?_⟩;have h4:q.data.toList[i]? =some q[i]:=by
    rw[Yi (by simpa using a)];rfl
   rw[cF,Xd,h4,h1];simp[Xt hx]
  ·intro _;simp only;omega
end
end
section
variable {T:TypeId}{s:SV}
def iK (n:Nat):ByteArray:=⟨Array.replicate n 0⟩
theorem me (n:Nat):(iK n).size=n:=by simp[iK,ByteArray.size]
theorem wW (n:Nat):cF (iK n)=List.replicate n 0:=by simp[cF,iK]
theorem wV (n:Nat):Builtin.zeroCells #[.int .u8 0] n=((iK n).extract 0 n).data.map λb=>Value.int .u8 b.toNat:=by
 have e:(iK n).extract 0 n=iK n:=by
  have:=ByteArray.extract_zero_size (b:=iK n)
  rwa [me]at this
 rw[e];apply Array.ext
 ·simp[Builtin.zeroCells,iK]
 ·intro i h1 h2;simp[Builtin.zeroCells,iK,Nat.mod_one]
variable {P:Program}
theorem rq {w:World}{T2 T3 E:TypeId}{ty:TypeId}{n bb:Nat} [hT:Und P T (.slice E)] [hT2:Und P T2 (.int .i64)] [hT3:Und P T3 .string] [l:Inf P E 1 bb (.int .u8 0)] (hn:n*bb≤140737488355328) (hn2:n≤140737488355328) (hl:s.n+n≤140737488355328) (g:(s.n+n)*bb≤140737488355328):
 (Builtin.append_ #[T,T2] ty #[s.val,.int .i64 (n:Int)]).run P w=(Builtin.append_ #[T,T3] ty #[s.val,.string (iK n)]).run P w:=by
 obtain⟨i,h,hi2,e,hi4⟩:=l.out;have c:∀w:World,(typeInfo E).run P w=.ok i w:=by intro w;simp[typeInfo,h]
 have k:IntKind.wrap .i64 (n:Int)=n:=ie a8;have h0:¬((n:Int)<0):=a8;have h1:¬((n:Int)*(i.bytes:Int) > 2^48):=by
  rw[e];have:(n:Int)*(bb:Int)=((n*bb:Nat):Int):=ak;rw[this];omega
 have f:¬(((s.n+n:Nat):Int) > IntKind.i64.max):=by
  simp only[IntKind.max,IntKind.signed,IntKind.bits];simp;omega
 simp only[Builtin.append_,SV.val];simp only[Sem.run_bind,Sem.run_pure,Result.andThen_ok,cS (T:=T),cS (T:=T2),cS (T:=T3),dA (T:=E) (s:=1),Vv,Xb,Xc,Xp,↓reduceIte,asInt,asIntOf,k,h0,c,h1,Builtin.lenOf,me,Uv];have d:∀w:World,(if n*1=0 then(pure #[]:Sem (Array Value))else do
  let z ←zeroValue E
  pure (Builtin.zeroCells z.cells n)).run P w=.ok (((iK n).extract 0 n).data.map λb=>Value.int .u8 b.toNat) w:=by
  intro w;rw[←wV]
  by_cases hz:n*1=0
  ·obtain rfl:n=0:=by omega
   rw[if_pos hz,Sem.run_pure];simp[Builtin.zeroCells]
  ·rw[if_neg hz];simp only[Sem.run_bind,gY (T:=E),Result.andThen_ok,Sem.run_pure];rfl
 have a:∀w:World,(Builtin.firstCells 1 n (.string (iK n))).run P w=.ok (((iK n).extract 0 n).data.map λb=>Value.int .u8 b.toNat) w:=λw=>rfl
 by_cases hroom:s.n+n≤s.c
 ·simp only[hroom,↓reduceIte,S3,V1,Xp,Sem.run_bind,d,a]
 ·have j:¬(Builtin.nextslicecap (s.n+n) s.c*i.bytes > 2^48):=by
   have:=growslice_fits (bytes:=bb) (need:=s.n+n) (old:=s.c) a8 g;rw[e];omega
  simp only[hroom,f,j,↓reduceIte,S3,V1,Xp,Sem.run_bind,d,a,c,Result.andThen_ok,false_and]
variable {G:cJ}{t:Tm}{H:cG}{dst:Option Tmp}{ty:TypeId}{pos:String}{after:Array Edge}{g:Option (Nat×Bool)}
theorem sK {T2 T3 E:TypeId}{x y:Operand}{j:Int}{n bb:Nat}{xs:List Nat}{C:Hp→cG}(hx:evo t x=some s.val) (hy:evo t y=some (.int .i64 j)) (hj:j=(n:Int)) (hlim:(xs.length+n)*bb≤140737488355328) (hlim2:xs.length+n≤140737488355328) [hT:Und P T (.slice E)] [hT2:Und P T2 (.int .i64)] (hT3:Und P T3 .string) [hE:Inf P E 1 bb (.int .u8 0)] [hf:mc H s eB xs C] [hs:Sl H s eB xs]:
 St G P ⟨dst,.call ⟨.builtin .append, #[x,y], #[T,T2]⟩,ty,pos,after,g⟩ t H (λu h=>∃a:SV,u=a.val∧h=C (Row a eB (xs++List.replicate n 0))):=
 fun ρ hρ w hw=>by
  subst hj;obtain⟨f,_,_⟩:=hs.get hw;have c:(s.n+n)*bb≤140737488355328:=by rw[f];exact hlim
  have d:n*bb≤140737488355328:=Xi (Vc _ a8) c;obtain⟨a,e,hr,b⟩:=oG (ty:=ty) (T:=T) (T2:=T3) (d2:=.string) (P:=P) (E:=E) (ys:=cF (iK n)) (.inl rfl) rfl rfl (hf:=hf) hw (pM (iK n)) rfl rfl (by rw[cI,me];exact hlim) (by rw[cI,me];exact hlim2);rw[←rq (T2:=T2) d a8 a8 c]at hr;have:(execOp ρ ⟨dst,.call ⟨.builtin .append, #[x,y], #[T,T2]⟩,ty,pos,after,g⟩).run P w=.ok (.value a.val) e:=by
   simp only[execOp,resolve,invoke,builtin,Uh,Xn,Ul,hρ _ _ hx,hρ _ _ hy,Sem.run_bind,Sem.run_pure,Result.andThen_ok,hr]
  rw[this];rw[wW]at b;exact⟨_,b,a,rfl,rfl⟩
theorem wA {U:TypeId}{x y:Operand}{i j:Int}(hx:evo t x=some (.int .i64 i)) (hy:evo t y=some (.int .i64 j)) (a b:Nat) (ha:i=a) (f:j=b) (d:a<9223372036854775808) (c:b<9223372036854775808):
 Ev G P ⟨dst,.binOp .or T x y U,ty,pos,after,g⟩ t H (.int .i64 ((a |||b:Nat):Int)):=
 fun ρ hρ w _=>by
  have hlt:a |||b<2^63:=X8 (n:=63) d c;have e:(BitVec.ofInt 64 (a:Int) |||BitVec.ofInt 64 (b:Int)).toNat=a |||b:=by
   rw[g9,g9,BitVec.toNat_or,BitVec.toNat_ofNat,BitVec.toNat_ofNat,Xt a8,Xt a8]
  have k:IntKind.wrap .i64 ((a |||b:Nat):Int)=((a |||b:Nat):Int):=ie a8;have h:IntKind.wrap .i64 (((BitVec.ofInt (IntKind.bits .i64) (a:Int) |||BitVec.ofInt (IntKind.bits .i64) (b:Int)).toNat:Nat):Int)=((a |||b:Nat):Int):=by rw[←k];exact congrArg (λn:Nat=>IntKind.wrap .i64 (n:Int)) e
  simp only[execOp,hρ _ _ hx,hρ _ _ hy,eqGuard,binOp,Op.intBits,ha,f];simp only[Sem.run_bind,Sem.run_pure,ne_eq,not_true_eq_false,↓reduceIte];rw[h];rfl
end
end Go.Sx
namespace Go.Sx
open Go
section
variable {G:cJ}{P:Program}{N:Nat}{Q:Post}{t:Tm}{H:cG}{dst:Option Tmp}{ty:TypeId}{pos:String}{after:Array Edge}{g:Option (Nat×Bool)}
theorem xm {T K E:TypeId}{x y v:Operand}{r i:Nat}{u S:Value}{k:List (ByteArray×Value)}{s:ByteArray}{C:Hp→cG}(hx:evo t x=some (.map (some r))) (hy:evo t y=some (.string s)) (hv:evo t v=some u) (hi:k[i]? =some (s,S)) (q:(k.map (·.1)).Nodup) [hT:Und P T (.map K E)] [R:Und P K .string] [hf:Foc H Mv r k C]:
 St G P ⟨dst,.mapUpdate T x y v,ty,pos,after,g⟩ t H (λU Z=>U=undef∧Z=C (Mv r (k.set i (s,u)))):=
 fun ρ hρ w hw=>by
  obtain⟨N,L,hL,hl⟩:=hw;obtain⟨L1,M,L2,rfl,⟨c,a,rfl,hk⟩,X⟩:=hf.foc _ hL;have J:w.heap[r]? =some (.map c.toArray a):=hl.at_ (r,.map c.toArray a) ak;have V:=MapKept.run_getObj_map (P:=P) J;have B:=MapKept.run_checkKey (P:=P) (w:=w) R.out (lP s);rcases mL s k c 0 hk.keys hk.vals with⟨j,v',h1,h2⟩|⟨h1,h2⟩
  ·have A:j=i:=by
    have f:=(Yk.1 h1).1;exact(T4 (by rw[Yh];exact f) q).1 (by rw[Xd,Xd,h1,hi];rfl)
   subst A;have hlen:c.length=k.length:=bV;have f:=(Yk.1 h1).1;obtain⟨Y,d⟩:=gE c j;have h:Y.key=.string s:=by
    have:=congrArg (·[j]?) hk.keys;simp only[Xd,d,h1,Vd,Option.some.injEq]at this;exact this
   have h3:=MapKept.run_findKey (P:=P) (w:=w) R.out h2;have z:(Instr.keyThatStays (((c.toArray[0+j]?).map (·.key)).getD (.string s)) (.string s)).run P w=.ok (.string s) w:=by
    rw[Vf];simp only[Vv,d,Vd,U0,h,Instr.keyThatStays];have F:Instr.sameBits 10000 (.string s) (.string s)=true:=by
     show(s==s)=true;exact(MapKept.bytes_beq s s).2 rfl
    rw[if_pos F];rfl
   have p:=MapKept.run_setObj_map (P:=P) (.map (c.toArray.modify (0+j) λe=>{e with key:=.string s,val:=u}) a) J;have hr:(execOp ρ ⟨dst,.mapUpdate T x y v,ty,pos,after,g⟩).run P w=.ok .skip (e7 w r (.map (c.toArray.modify (0+j) λe=>{e with key:=.string s,val:=u}) a)):=by
    simp only[execOp,hρ _ _ hx,hρ _ _ hy,hρ _ _ hv,Instr.mapUpdate,Sem.run_bind,cS (T:=T),Result.andThen_ok,V,B,h3,z,p,Sem.run_pure];rfl
   have n:MapKept.Stamped (c.toArray.modify (0+j) λe=>{e with key:=.string s,val:=u}) a:=
    MapKept.stamped_modify hk.stamped (0+j) _ (λ_ _=>rfl) (λe _ he=>by
     simp only[Vf,Vv,d,Option.some.injEq]at he;rw[←he];exact h.symm)
   rw[hr];have l:c.toArray.modify (0+j) (λe=>{e with key:=.string s,val:=u})=(c.modify j λe=>{e with key:=.string s,val:=u}).toArray:=ak;rw[l]at n⊢;refine⟨C (Mv r (k.set j (s,u))),⟨⟨N.os,N.tape,N.output⟩,_,X _ [(r,.map (c.modify j λe=>{e with key:=.string s,val:=u}).toArray a)] ⟨_,a,rfl,⟨n,?_,?_⟩⟩,?_⟩,rfl,rfl⟩
   ·apply Vu;intro m;have hm:=congrArg (·[m]?) hk.keys;simp only[Xd,List.getElem?_modify,U2]at hm⊢
    by_cases hmj:j=m
    ·subst hmj;simp[d,f]
    ·simp only[hmj,if_false,Option.map_eq_map,id_map']at hm⊢
     simpa using hm
   ·apply Vu;intro m;have hm:=congrArg (·[m]?) hk.vals;simp only[Xd,List.getElem?_modify,U2]at hm⊢
    by_cases hmj:j=m
    ·subst hmj;simp[d,f]
    ·simp only[hmj,if_false,Option.map_eq_map,id_map']at hm⊢
     simpa using hm
   ·have:=ju.change (w':=e7 w r (.map (c.modify j λe=>{e with key:=.string s,val:=u}).toArray a)) (L1:=L1) (L2:=L2) (b:=r) (o:=.map c.toArray a) (o':=.map (c.modify j λe=>{e with key:=.string s,val:=u}).toArray a) aP (fB J) (λi hi _=>eL hi)
    simpa using this
  ·exact absurd (Xw.2 ⟨_,Yj hi,rfl⟩) h1
structure RgE (es:List MapEntry) (seen:Array Nat) (kv:List (ByteArray×Value)) (done:List ByteArray):Prop where
 was:∀(i:Nat) (e:MapEntry) (p:ByteArray×Value),es[i]? =some e→kv[i]? =some p→(seen.contains e.born=true↔p.1∈done)
 last:∀k,done.getLast? =some k→∃(e:MapEntry) (s0:Array Nat) (j:Nat),es[j]? =some e∧(∃v,kv[j]? =some (k,v))∧seen=s0.push e.born
def Rg (i:Nat×Nat) (q:List (ByteArray×Value)×List ByteArray):Hp:=λL=>∃(es:List MapEntry) (clock:Nat) (seen:Array Nat),L= [(i.1,.map es.toArray clock),(i.2,.mapIter (some i.1) clock seen clock)]∧MvE es clock q.1∧RgE es seen q.1 q.2
theorem Eo {T K E:TypeId}{x:Operand}{r:Nat}{c:List (ByteArray×Value)}{R:cG}(hx:evo t x=some (.map (some r))) [hT:Und P T (.map K E)] [hr:Rem H Mv r c R]:
 St G P ⟨dst,.range T x,ty,pos,after,g⟩ t H (λu m=>∃i,u=.pointer (some ⟨i,0,none⟩)∧m=Rg (r,i) (c, [])::R):=
 fun ρ hρ w hw=>by
  have d:=hr.sat hw;obtain⟨f,L,⟨L1,L2,rfl,⟨b,a,rfl,hk⟩,h⟩,hl⟩:=d;have l:w.heap[r]? =some (.map b.toArray a):=hl.at_ (r,.map b.toArray a) ak;have j:=MapKept.run_getObj_map (P:=P) l;have e:(execOp ρ ⟨dst,.range T x,ty,pos,after,g⟩).run P w=.ok (.value (.pointer (some ⟨w.heap.size,0,none⟩))) {w with heap:=w.heap.push (.mapIter (some r) a #[] a)}:=by
   simp only[execOp,hρ _ _ hx,Instr.range,Sem.run_bind,cS (T:=T),Result.andThen_ok,j,Sem.run_pure,run_newObj]
  rw[e];have h2:ju {w with heap:=w.heap.push (.mapIter (some r) a #[] a)} (([(r,.map b.toArray a)]:mX)++([(w.heap.size,.mapIter (some r) a #[] a)]++L2)):=ju.push (M:= []) (L1:= [(r,.map b.toArray a)]) aP _;refine⟨Rg (r,w.heap.size) (c, [])::R,⟨⟨f.os,f.tape,f.output⟩,_,⟨[(r,.map b.toArray a),(w.heap.size,.mapIter (some r) a #[] a)],L2,rfl,⟨b,a, #[],rfl,hk,⟨λ_ _ _ _ _=>ak,λk hk=>by simp at hk⟩⟩,h⟩,?_⟩,_,rfl,rfl⟩
  simpa using h2
theorem I9 {x:Operand}{r it:Nat}{q:List (ByteArray×Value)×List ByteArray}{R:cG}(hx:evo t x=some (.pointer (some ⟨it,0,none⟩))) [hr:Rem H Rg (r,it) q R]:
 St G P ⟨dst,.next x false,ty,pos,after,g⟩ t H (λu H'=>(∃(i:Nat) (k:ByteArray) (v:Value),q.1[i]? =some (k,v)∧k ∉ q.2∧u=.tuple #[.bool true,.string k,v]∧H'=Rg (r,it) (q.1,q.2++ [k])::R)∨((∀p∈q.1,p.1∈q.2)∧u=.tuple #[.bool false]∧H'=Rg (r,it) q::R)):=
 fun ρ hρ w hw=>by
  have hw2:=hr.sat hw;obtain⟨hS,L,⟨L1,L2,rfl,⟨es,clock,seen,rfl,hk,hs⟩,hL2⟩,hl⟩:=hw2;have hb:w.heap[r]? =some (.map es.toArray clock):=hl.at_ (r,.map es.toArray clock) ak;have hi:w.heap[it]? =some (.mapIter (some r) clock seen clock):=hl.at_ (it,.mapIter (some r) clock seen clock) ak;have hlen:es.length=q.1.length:=bV;have hat:∀(j:Nat) (e:MapEntry),es[j]? =some e→∃p,q.1[j]? =some p∧e.key=.string p.1∧e.val=p.2:=by
   intro j e he;obtain⟨p,hp⟩:∃p,q.1[j]? =some p:=⟨_,Yi (by have:=(Yk.1 he).1;omega)⟩;have h1:=congrArg (·[j]?) hk.keys;have h2:=congrArg (·[j]?) hk.vals;simp only[Xd,he,hp,Vd,Option.some.injEq]at h1 h2;exact⟨p,hp,h1,h2⟩
  rcases run_next_at (P:=P) w ty it r clock clock seen es.toArray clock hi hb (λx hx=>hk.stamped.1 x hx) (Xj _)with⟨h0,hrun⟩|⟨e,he,w1,hw1,hrun⟩
  ·have hrr:(execOp ρ ⟨dst,.next x false,ty,pos,after,g⟩).run P w=.ok (.value (.tuple #[.bool false])) w:=by
    simp only[execOp,hρ _ _ hx,Sem.run_bind,hrun,Result.andThen_ok,Sem.run_pure]
   rw[hrr];refine⟨Rg (r,it) q::R,⟨hS,_,⟨[(r,.map es.toArray clock),(it,.mapIter (some r) clock seen clock)],L2,rfl,⟨es,clock,seen,rfl,hk,hs⟩,hL2⟩,hl⟩,.inr ⟨λp hp=>?_,rfl,rfl⟩⟩;obtain⟨j,hj⟩:=Uf hp;obtain⟨e,he⟩:∃e,es[j]? =some e:=⟨_,Yi (by have:=(Yk.1 hj).1;omega)⟩;refine(hs.was j e p he hj).1 ?_;have hl0:leftOf es.toArray seen= #[]:=Array.eq_empty_of_size_eq_zero h0;have h5:=Array.filter_eq_empty_iff.1 hl0 e (by simpa using Yj he)
   simpa using h5
  ·have hrr:(execOp ρ ⟨dst,.next x false,ty,pos,after,g⟩).run P w=.ok (.value (.tuple #[.bool true,e.key,e.val])) (ChangeMaps.setBlock w1 it (.mapIter (some r) clock (seen.push e.born) clock)):=by
    simp only[execOp,hρ _ _ hx,Sem.run_bind,hrun,Result.andThen_ok,Sem.run_pure]
   rw[hrr];have he2:e∈es∧seen.contains e.born=false:=by
    have:e∈leftOf es.toArray seen:=by simpa using he
    simp only[leftOf,Array.mem_filter]at this;exact⟨by simpa using this.1,by simpa using this.2⟩
   obtain⟨j,hj⟩:=Uf he2.1;obtain⟨p,hp,hpk,hpv⟩:=hat j e hj;have hno:p.1 ∉ q.2:=λhh=>by have:=(hs.was j e p hj hp).2 hh;rw[he2.2]at this;cases this
   have hheap:w1.heap=w.heap:=by rcases hw1 with rfl|rfl <;> rfl
   have hsame:Ar G w1:=by rcases hw1 with rfl|rfl <;> exact⟨hS.os,hS.tape,hS.output⟩
   refine⟨Rg (r,it) (q.1,q.2++ [p.1])::R,⟨⟨hsame.os,hsame.tape,hsame.output⟩,_,⟨[(r,.map es.toArray clock),(it,.mapIter (some r) clock (seen.push e.born) clock)],L2,rfl,⟨es,clock,_,rfl,hk,⟨λm e' p' he' hp'=>?_,λk hk=>by simp at hk;subst hk;exact⟨e,seen,j,hj,⟨p.2,hp⟩,rfl⟩⟩⟩,hL2⟩,?_⟩,.inl ⟨j,p.1,p.2,hp,hno,by rw[hpk,hpv],rfl⟩⟩
   ·have hold:=hs.was m e' p' he' hp';simp only[Array.contains_iff_mem,Array.mem_push,Xl,Ui]at hold⊢;rw[←hold];have hborn:e'.born=e.born↔p'.1=p.1:=by
     have hml:=(Yk.1 he').1
     constructor
     ·intro hh;have:m=j:=(T4 (by rw[Yh];exact hml) hk.stamped.2.1).1 (by simp only[List.toList_toArray,Xd,he',hj,Vd,hh]);subst this;rw[hp]at hp';rw[Xo hp']
     ·intro hh;have hkk:e'.key=e.key:=by
       obtain⟨p2,h1,h2,_⟩:=hat m e' he';rw[hp']at h1;rw[h2,←Xo h1,hh,hpk]
      have:m=j:=(T4 (by rw[Yh];exact hml) hk.stamped.2.2).1 (by simp only[List.toList_toArray,Xd,he',hj,Vd,hkk]);subst this;rw[hj]at he';rw[Xo he']
    rw[hborn]
   ·have hl1:ju w1 (([(r,.map es.toArray clock)]:mX)++(it,.mapIter (some r) clock seen clock)::L2):=⟨hl.nodup,λx hx=>by rw[hheap];exact hl.at_ x hx⟩;have hset:(ChangeMaps.setBlock w1 it (.mapIter (some r) clock (seen.push e.born) clock)).heap=w1.heap.setIfInBounds it (.mapIter (some r) clock (seen.push e.born) clock):=rfl;have hlt:it<w1.heap.size:=by rw[hheap];exact(Vh.1 hi).1
    have:=ju.change (w':=ChangeMaps.setBlock w1 it (.mapIter (some r) clock (seen.push e.born) clock)) (o':=.mapIter (some r) clock (seen.push e.born) clock) hl1 (by rw[hset,X6,if_pos rfl,if_pos hlt]) (λi hi _=>by rw[hset,X6,if_neg (λh=>hi h.symm)])
    simpa using this
theorem JA {R H':cG}{r it:Nat}{q:List (ByteArray×Value)×List ByteArray}(hr:Rem H Rg (r,it) q R) (h:cH (Mv r q.1::R) H'):cH H H':=cH.rem hr (cH.trans (λL hL=>by
 obtain⟨L1,L2,rfl,⟨c,a,b,rfl,hk,_⟩,h2⟩:=hL;exact⟨[(r,.map c.toArray a)]++L2, [(it,.mapIter (some r) a b a)],⟨[(r,.map c.toArray a)],L2,rfl,⟨c,a,rfl,hk⟩,h2⟩,by
  simp only[Yd,Ye,Yf];exact List.Perm.cons _ List.perm_append_comm⟩) h)
theorem qZ {T:TypeId}{x y:Operand}{s:SV}{i o sz bb:Nat}{z v:Value}{α:Type}{e:Enc α}{xs:List α}{a:α}{C:Hp→cG}(hx:evo t x=some (.pointer (s.elt sz i o))) (hy:evo t y=some v) [hT:Inf P T 1 bb z] [hv1:rz v] [hf:mc H s e xs C] (E:e.sz=sz) (B:α) (hi:xs[i]? =some B) (K:o<e.sz) (ha:e.f a=(e.f B).set o v):
 St G P ⟨dst,.store T x y,ty,pos,after,g⟩ t H (λu Z=>u=undef∧Z=C (Row s e (xs.set i a))):=
 fun ρ hρ w hw=>by
  subst E;have p:=(Yk.1 hi).1;obtain⟨L1,M,L2,hl,U,V⟩:=hf.split hw;rcases U with⟨rfl,rfl,rfl⟩|⟨b,f,k,fz,R,Y,X,rfl,N,L,J⟩
  ·simp at p
  ·have A:w.heap[b]? =some (.cells f k fz):=hl.at_ (b,.cells f k fz) ak;have q:i*e.sz+e.sz≤f.size:=by
    rw[N,show i*e.sz+e.sz=(i+1)*e.sz from aK];exact Vc _ a8
   have n:v.oneCell'=true:=by
    have h1:=e.one a v;exact h1 (by rw[ha];exact Yj (Uz (by rw[e.len];exact K)))
   have l:=ez (P:=P) (o:=i*e.sz+o) [v] 0 f w A (λj _ h=>L.free j (by simp at h;omega)) aH (λu c=>by simp at c;subst c;exact n);have r:v.cells= #[v]:=(n4.single (v:=v)).out;have S:v.cells.size=1:=by rw[r];rfl
   have hx':=hρ _ _ hx;simp only[SV.elt,R,Vd,Vf]at hx';have hr:(execOp ρ ⟨dst,.store T x y,ty,pos,after,g⟩).run P w=.ok .skip (e7 w b (.cells (ej f (i*e.sz+o) [v]) k fz)):=by
    simp only[execOp,hx',hρ _ _ hy,Instr.storeAt,Instr.sureAddr,storeVar,Sem.run_bind,Sem.run_pure,Result.andThen_ok,dA (T:=T),S];simp only[ne_eq,not_true_eq_false,↓reduceIte];rw[r];simp only[Ur]at l⊢;rw[l];rfl
   rw[hr];have m:ej f (i*e.sz+o) [v]=ej f (i*e.sz) (e.f a):=by
    apply Q3;intro j;rw[fy _ _ _ _ aH,fy _ _ _ _ (by rw[e.len];exact q),e.len];simp only[Yb,Yc,Vf]
    by_cases hj:i*e.sz≤j∧j<i*e.sz+e.sz
    ·rw[if_pos hj,ha,U2]
     by_cases hjo:o=j-i*e.sz
     ·rw[if_pos a8,if_pos hjo,if_pos (by rw[e.len];exact K),show j-(i*e.sz+o)=0 from a8];rfl
     ·rw[if_neg a8,if_neg hjo];obtain⟨d,rfl⟩:∃d,j=i*e.sz+d:=⟨j-i*e.sz,a8⟩;have hd:d<e.sz:=a8;rw[V0,←e.all_get xs i d B hi hd];obtain⟨u,c⟩:∃u,(e.all xs)[i*e.sz+d]? =some u:=by
       rw[e.all_get xs i d B hi hd];exact⟨_,Yi (by rw[e.len];exact hd)⟩
      rw[c];exact J _ u c
    ·rw[if_neg hj,if_neg a8]
   rw[m];refine⟨C (Row s e (xs.set i a)),⟨⟨hw.1.os,hw.1.tape,hw.1.output⟩,_,V _ [(b,.cells (ej f (i*e.sz) (e.f a)) k fz)] (.inr ⟨b,_,k,fz,R,by rw[T6];exact Y,X,rfl,by rw[er,N],by rw[er];exact L,?_⟩),?_⟩,rfl,rfl⟩
   ·intro j u c;rw[fy _ _ _ _ (by rw[e.len];exact q),e.len];rw[U1,if_pos p,e.all_append,e.all_cons]at c;have F:(e.all (xs.take i)).length=i*e.sz:=bL
    by_cases hj:j<i*e.sz
    ·rw[if_neg a8];rw[Yv a8,e.all_take,Xz hj]at c;exact J j u c
    ·rw[Yu a8,F]at c
     by_cases hj2:j<i*e.sz+e.sz
     ·rw[if_pos a8];rw[Yv bC]at c;exact c
     ·rw[if_neg a8];rw[Yu bC,e.len,e.all_drop,Xh,Vg,Nat.one_mul]at c;exact J j u (by rw[←c];congr 1;omega)
   ·have:=ju.change (w':=e7 w b (.cells (ej f (i*e.sz) (e.f a)) k fz)) (L1:=L1) (L2:=L2) (b:=b) (o:=.cells f k fz) (o':=.cells (ej f (i*e.sz) (e.f a)) k fz) aP (fB A) (λi hi _=>eL hi)
    simpa using this
theorem BZ (a b:ByteArray):a.toList<b.toList↔cF a<cF b:=by
 have c:∀x y:List UInt8,x<y↔x.map (·.toNat)<y.map (·.toNat):=by
  intro x
  induction x with
  |nil=>intro y;cases y <;> simp
  |cons a x ih=>
   intro y;cases y with
   |nil=>simp
   |cons b y=>
    simp only[Xn,S9,ih y,UInt8.lt_iff_toNat_lt,UInt8.toNat_inj]
 rw[ByteArray.toList_eq,ByteArray.toList_eq];exact c _ _
theorem pY:∀(x y:List UInt8),Op.bytesLess x y=decide (x<y)
 | [], []=>by simp[Op.bytesLess]
 |_::_, []=>by simp[Op.bytesLess]
 | [],_::_=>by simp[Op.bytesLess]
 |a::x,b::y=>by
  rw[Op.bytesLess,pY x y]
  by_cases h1:a<b
  ·simp[h1,S9]
  ·by_cases h2:a=b
   ·subst h2;simp[S9]
   ·simp[h1,h2,S9]
theorem kU (a b:ByteArray):Op.bytesLess a.toList b.toList=decide (cF a<cF b):=by
 rw[pY];exact decide_eq_decide.2 (BZ a b)
theorem PH {T U:TypeId}{x y:Operand}{a b:ByteArray}(hx:evo t x=some (.string a):=by exact rfl) (hy:evo t y=some (.string b):=by exact rfl):Ev G P ⟨dst,.binOp .leq T x y U,ty,pos,after,g⟩ t H (.bool (!decide (cF b<cF a))):=
 fun ρ hρ w _=>by
  have e:(Op.bytesLess a.toList b.toList ||a.toList==b.toList)= !decide (cF b<cF a):=by
   rw[kU,wO,U4];simp only[Ub,Xs,Vq,Xx];rw[List.not_lt,List.le_iff_lt_or_eq]
  simp only[execOp,hρ _ _ hx,hρ _ _ hy,eqGuard,binOp_string_leq,e];rfl
theorem PJ {T U:TypeId}{x y:Operand}{a b:ByteArray}(hx:evo t x=some (.string a):=by exact rfl) (hy:evo t y=some (.string b):=by exact rfl):Ev G P ⟨dst,.binOp .geq T x y U,ty,pos,after,g⟩ t H (.bool (!decide (cF a<cF b))):=
 fun ρ hρ w _=>by
  simp only[execOp,hρ _ _ hx,hρ _ _ hy,eqGuard,binOp_string_geq,kU];rfl
end
end Go.Sx
namespace Go.Sx
open Go
section
variable {G:cJ}{P:Program}{N:Nat}{Q:Post}{t:Tm}{H:cG}{dst:Option Tmp}{ty:TypeId}{pos:String}{after:Array Edge}{g:Option (Nat×Bool)}
theorem D5 {T E:TypeId}{n sz bb s c:Nat}{z a:Value}{ps:List (Nat×Operand)}{vs:List (Nat×Value)}(l:List Value) (hp:qI t ps=some vs) [hT:Und P T (.array n E)] [hE:Inf P E sz bb z] [hI:Inf P T s c a] (hf:Instr.fill (λi=>some (i*sz,sz)) a.cells vs=some l.toArray):
 Ev G P ⟨dst,.build T ps.toArray,ty,pos,after,g⟩ t H (.agg l.toArray):=
 fun ρ hρ w _=>by
  have b:(ps.toArray.map fun(i,x)=>(i,ρ x)).toList=vs:=by simp[nC hρ hp]
  simp only[execOp,Instr.build,Sem.run_bind,cS (T:=T),gY (T:=T),dA (T:=E),Result.andThen_ok,b,hf,Sem.run_pure]
theorem vi {T E:TypeId}{n bb:Nat}{z v:Value}{x a:Operand}{k:IntKind}{j:Int}{l:List Value}(i:Nat) (hx:evo t x=some (.agg l.toArray)) (hi:evo t a=some (.int k j)) (hj:j=(i:Int)) [hT:Und P T (.array n E)] [hO:One P E] [hE:Inf P E 1 bb z] (hn:i<n) (hv:l[i]? =some v):
 Ev G P ⟨dst,.index T x a,ty,pos,after,g⟩ t H v:=
 fun ρ hρ w _=>by
  subst hj;have h1:(0≤((i:Nat):Int)∧((i:Nat):Int)<((n:Nat):Int)):=a8;simp only[execOp,Instr.index,hρ _ _ hx,hρ _ _ hi,asIntOf,Sem.run_bind,cS (T:=T),dA (T:=E),i7 (T:=E),Result.andThen_ok,Sem.run_pure,if_pos h1,part,Xp,↓reduceIte,Uv,R6,Vv,hv]
end
end Go.Sx
namespace Go.Sx
open Go
section
variable {G:cJ}{P:Program}{t:Tm}{H:cG}{dst:Option Tmp}{ty:TypeId}{pos:String}{after:Array Edge}{g:Option (Nat×Bool)}
theorem xU {α β:Type}{f:α→β}{l:List α}(h:(l.map f).Nodup):l.Nodup:=(List.pairwise_map.1 h).imp λh e=>h (congrArg f e)
theorem J6 {x:Operand}{T K E:TypeId}{r:Nat}{c:List (ByteArray×Value)}{C:Hp→cG}(hx:evo t x=some (.map (some r))) [hT:Und P T (.map K E)] [hf:Foc H Mv r c C]:
 Ev G P ⟨dst,.call ⟨.builtin .len, #[x], #[T]⟩,ty,pos,after,g⟩ t H (.int .i64 ((c.length:Nat):Int)):=
 fun ρ hρ w hw=>by
  obtain⟨hS,L,hL,hl⟩:=hw;obtain⟨L1,M,L2,rfl,⟨d,a,rfl,hk⟩,hB⟩:=hf.foc _ hL;have f:w.heap[r]? =some (.map d.toArray a):=hl.at_ (r,.map d.toArray a) ak;have e:=MapKept.run_getObj_map (P:=P) f;have b:d.length=c.length:=bV;simp only[execOp,resolve,Sem.run_bind,Sem.run_pure,Result.andThen_ok,invoke,builtin,Builtin.len_,Uh,Xn,Ul,hρ _ _ hx,Vv,Xb,cS (T:=T),e,goInt,List.size_toArray,b]
theorem Gm {x:Operand}{r it i:Nat}{q:List (ByteArray×Value)×List ByteArray}{k:ByteArray}{v:Value}{A:List ByteArray}{C:Hp→cG}(hx:evo t x=some (.pointer (some ⟨it,0,none⟩))) (hd:q.2=A++ [k]) (hi:q.1[i]? =some (k,v)) [hf:Foc H Rg (r,it) q C]:
 Ev G P ⟨dst,.entry x,ty,pos,after,g⟩ t H (.tuple #[.string k,v]):=
 fun ρ hρ w hw=>by
  obtain⟨hS,L,hL,hl⟩:=hw;obtain⟨L1,M,L2,rfl,⟨n,a,b,rfl,hk,y⟩,hB⟩:=hf.foc _ hL;have z:w.heap[r]? =some (.map n.toArray a):=hl.at_ (r,.map n.toArray a) ak;have m:w.heap[it]? =some (.mapIter (some r) a b a):=hl.at_ (it,.mapIter (some r) a b a) ak;obtain⟨e,u,j,he,hj,d⟩:=y.last k (by rw[hd];simp);obtain⟨v',hj⟩:=hj;have h1:=congrArg (·[j]?) hk.keys;have h2:=congrArg (·[j]?) hk.vals;simp only[Xd,he,hj,Vd,Option.some.injEq]at h1 h2;have l:j=i:=by
   have f:(q.1.map (·.1)).Nodup:=by
    have s:=hk.stamped.2.2;rw[List.toList_toArray,hk.keys,show(λp:ByteArray×Value=>Value.string p.1)=Value.string∘(·.1)from rfl,←Ut]at s;exact xU s
   have h:=(Yk.1 hj).1;exact(T4 (by rw[Yh];exact h) f).1 (by rw[Xd,Xd,hj,hi];rfl)
  subst l;rw[hi]at hj;cases hj;have c:=run_entry_at (P:=P) w it r a u n.toArray a e (by rw[←d];exact m) z (by simpa using Yj he) hk.stamped.2.1;simp only[execOp,hρ _ _ hx,Sem.run_bind,c,Result.andThen_ok,Sem.run_pure,h1,h2]
end
end Go.Sx
namespace Go.Sx
theorem dj {H H':cG}{s:SV}{α:Type}{e:Enc α}{xs:List α}(h:cH H H') (hs:Sl H' s e xs):Sl H s e xs:=Sl.hsub h hs
theorem cH.none {H:cG}:cH H []:=λL _=>⟨[],L,rfl,ak⟩
end Go.Sx
namespace Go.Sx
open Go
section
variable {f:FuncId}{vs:List Value}
theorem Ew {G:cJ}{P:Program}{t:Tm}{H:cG}{dst:Option Tmp}{c:Operand}{fi ca:List Value}{xs:List Operand}{a:Array TypeId}{ty:TypeId}{pos:String}{after:Array Edge}{g:Option (Nat×Bool)}{K:Value→cG→Prop}(h0:evo t c=some (.func (.func f) fi.toArray ca.toArray)) (hx:oP t xs=some vs) (hc:SC G P f (fi++vs++ca) H K):St G P ⟨dst,.call ⟨.value c,xs.toArray,a⟩,ty,pos,after,g⟩ t H K:=by
 intro ρ hρ w b;have h1:ρ c=.func (.func f) fi.toArray ca.toArray:=hρ _ _ h0;have h2:xs.toArray.map ρ=vs.toArray:=bD;have:(execOp ρ ⟨dst,.call ⟨.value c,xs.toArray,a⟩,ty,pos,after,g⟩).run P w=.ok (.enter f (fi++vs++ca).toArray) w:=by
  simp only[execOp,resolve,h1,h2,Deferred.ofValue,Sem.run_bind,Sem.run_pure,Result.andThen_ok];simp only[invoke,List.append_toArray];exact hc.enter _ _
 rw[this];exact hc.call w b
section
variable {G:cJ}{P:Program}{N:Nat}{Q:Post}{t:Tm}{H:cG}
section
variable {α:Type}{I:α→Prop}{fr:α→Tm}{hp:α→cG}{μ:α→Nat}{l m:Nat}
end
end
section
variable {G:cJ}{P:Program}{N:Nat}{Q:Post}{t:Tm}{H:cG}
section
variable {α:Type}{I:α→Prop}{fr:α→Tm}{hp:α→cG}{l:Nat}
end
end
section
variable {G:cJ}{P:Program}{t:Tm}{H:cG}{dst:Option Tmp}{ty:TypeId}{pos:String}{after:Array Edge}{g:Option (Nat×Bool)}
theorem D4 {T ft off bb k:Nat}{x:Operand}{fs:Array Field}{z v:Value}{l:List Value}(a:P.underlying T=some (.struct fs)) (hf:(fs[k]?).map (λf=>(f.offset,f.type))=some (off,ft)) (hx:evo t x=some (.agg l.toArray)) (hv:l[off]? =some v) [hO:One P ft] [hE:Inf P ft 1 bb z]:
 Ev G P ⟨dst,.field T x k,ty,pos,after,g⟩ t H v:=
 fun ρ hρ w _=>by
  cases hk:fs[k]? with
  |none=>rw[hk]at hf;cases hf
  |some f=>
   rw[hk]at hf;simp only[Vd,Option.some.injEq,Prod.mk.injEq]at hf;obtain⟨h1,h2⟩:=hf;subst h1;subst h2;have h3:(l.toArray)[f.offset]? =some v:=by simpa using hv
   simp only[execOp,hρ _ _ hx,Instr.field,Sem.run_bind,cS (T:=T) (d:=.struct fs) (h:=⟨a⟩),Result.andThen_ok,hk,asAgg,part,Sem.run_pure,i7 (T:=f.type),Xp,↓reduceIte];simp[hv]
theorem mkf {fi ca:List Operand}{ws:List Value}(h1:oP t fi=some vs:=by exact rfl) (h2:oP t ca=some ws:=by exact rfl):
 Ev G P ⟨dst,.makeFunc (.func f) fi.toArray ca.toArray,ty,pos,after,g⟩ t H (.func (.func f) vs.toArray ws.toArray):=
 fun ρ hρ w _=>by
  have b:fi.toArray.map ρ=vs.toArray:=by rw[Uh,jY hρ h1]
  have a:ca.toArray.map ρ=ws.toArray:=by rw[Uh,jY hρ h2]
  simp only[execOp,Instr.makeFunc,b,a,Sem.run_bind,Sem.run_pure,Result.andThen_ok]
end
end
end Go.Sx
