import Derived.Test.YtefgpomabdplbaaGreatDoorQ9
import Derived.Laws.IdiomStrings
set_option linter.unusedVariables false
set_option linter.unusedSimpArgs false
set_option linter.unusedSectionVars false
set_option linter.unnecessarySimpa false
set_option maxHeartbeats 0
namespace Go.Sx
open Go
section
variable {G:cK}{P:Program}{N:Nat}{Q:Post}{t:Tm}{H:cG}{ops:Array Oper}{dst:Option Tmp}{ty:TypeId}{pos:String}{after:Array Edge}{g:Option (Nat×Bool)}{l:List Oper}
theorem qH {recv:Operand}{name:String}{xs:List Operand}{ats:Array TypeId}{vs ws:List Value}{T:TypeId}{v:Value}{f:FuncId}{K:Value→cG→Prop}(hr:evo t recv=some (.iface T v)) (hx:qj t xs=some vs)
 (hm:∀w,(callMethod (.iface T v) name vs.toArray).run P w= .ok (.enter f ws.toArray) w) (hc:SC G P f ws H K):St G P ⟨dst, .call ⟨.invoke recv name,xs.toArray,ats⟩,ty,pos,after,g⟩ t H K:=by
 intro ρ hρ w hw
 have h1:=hρ _ _ hr
 have h2:xs.toArray.map ρ=vs.toArray:=bR
 have:(execOp ρ ⟨dst, .call ⟨.invoke recv name,xs.toArray,ats⟩,ty,pos,after,g⟩).run P w= .ok (.enter f ws.toArray) w:=by
  simp only[execOp,resolve,h1,h2,Sem.run_bind,Sem.run_pure,Result.andThen_ok,invoke]
  have e:(#[Value.iface T v]++vs.toArray)[0]? =some (Value.iface T v):=an
  have e2:(#[Value.iface T v]++vs.toArray).extract 1 (#[Value.iface T v]++vs.toArray).size=vs.toArray:=an
  simp only[e,e2]
  exact hm w
 rw[this]
 exact hc.call w hw
structure MvE (es:List MapEntry) (clock:Nat) (kv:List (ByteArray×Value)):Prop where
 stamped:MapKept.Stamped es.toArray clock
 keys:es.map (·.key)=kv.map fun p=> Value.string p.1
 vals:es.map (·.val)=kv.map (·.2)
def Mv (r:Nat) (kv:List (ByteArray×Value)):Hp:=fun L=> ∃(es:List MapEntry) (clock:Nat),L= [(r, .map es.toArray clock)]∧MvE es clock kv
theorem mJ (k:ByteArray):∀(kv:List (ByteArray×Value)) (es:List MapEntry) (i:Nat),es.map (·.key)=kv.map (fun p=> Value.string p.1)→es.map (·.val)=kv.map (·.2)→
 (∃j v,kv[j]? =some (k,v)∧Instr.findNow .string (.string k) es i=some (some (i+j,v)))∨(k ∉ kv.map (·.1)∧Instr.findNow .string (.string k) es i=some none)
 | [],es,i,h,_=> by
  obtain rfl:es= []:=aY
  exact .inr ⟨an,rfl⟩
 |q::ks, [],i,h,_=> aW
 |q::ks,e::es,i,h,hv=> by
  simp only[List.map_cons,List.cons.injEq]at h hv
  obtain⟨h1,h2⟩:=h
  obtain⟨h3,h4⟩:=hv
  have hn:Instr.findNow .string (.string k) (e::es) i=match Instr.sameNow .string (.string k) (.string q.1)with
   |some true=> some (some (i,e.val))
   |some false=> Instr.findNow .string (.string k) es (i+1)
   |none=> none:=by rw[←h1];rfl
  rw[hn]
  by_cases hk:k=q.1
  ·subst hk
   have hb:(q.1==q.1)=true:=(MapKept.bytes_beq q.1 q.1).2 rfl
   left
   simp only[Instr.sameNow,hb]
   exact⟨0,q.2,an,by rw[h3];rfl⟩
  ·have hb:(k==q.1)=false:=by
    cases h:(k==q.1)with
    |false=> rfl
    |true=> exact absurd ((MapKept.bytes_beq k q.1).1 h) hk
   simp only[Instr.sameNow,hb]
   rcases mJ k ks es (i+1) h2 h4 with⟨j,v,h5,h6⟩|⟨h5,h6⟩
   ·exact .inl ⟨j+1,v,by simpa using h5,by rw[h6];simp only[Option.some.injEq,Prod.mk.injEq,and_true];omega⟩
   ·exact .inr ⟨fun h=> by
     rcases List.mem_cons.1 h with h|h
     ·exact hk h
     ·exact h5 h,h6⟩
theorem CY {T K E:TypeId}{x:Operand}{k:IntKind}{i:Int} [hT:Und P T (.map K E)] (hx:evo t x=some (.int k i)):
 St G P ⟨dst, .makeMap T (some x),ty,pos,after,g⟩ t H (fun u H'=> ∃r,u= .map (some r)∧H'=Mv r []::H):=
 fun ρ hρ w hw=> by
  have hr:(execOp ρ ⟨dst, .makeMap T (some x),ty,pos,after,g⟩).run P w= .ok (.value (.map (some w.heap.size))) {w with heap:=w.heap.push (.map #[] 0)}:=by
   simp only[execOp,Option.map_some,Instr.makeMap,hρ _ _ hx,Sem.run_bind,da (T:=T),Result.andThen_ok,asInt,asIntOf,Sem.run_pure,run_newObj]
  rw[hr]
  exact⟨_,(hw.alloc _).cons fun _ hM=> ⟨[],0,hM,⟨MapKept.stamped_empty 0,rfl,rfl⟩⟩,w.heap.size,rfl,rfl⟩
theorem tg {T:TypeId}:
 St G P ⟨dst, .makeMap T none,ty,pos,after,g⟩ t H (fun u H'=> ∃r,u= .map (some r)∧H'=Mv r []::H):=
 fun ρ hρ w hw=> by
  have hr:(execOp ρ ⟨dst, .makeMap T none,ty,pos,after,g⟩).run P w= .ok (.value (.map (some w.heap.size))) {w with heap:=w.heap.push (.map #[] 0)}:=by
   simp only[execOp,Option.map_none,Instr.makeMap,Sem.run_bind,Result.andThen_ok,Sem.run_pure,run_newObj]
  rw[hr]
  exact⟨_,(hw.alloc _).cons fun _ hM=> ⟨[],0,hM,⟨MapKept.stamped_empty 0,rfl,rfl⟩⟩,w.heap.size,rfl,rfl⟩
theorem BK {T K E:TypeId}{x y:Operand}{r sz bb:Nat}{z:Value}{ok:Bool}{kv:List (ByteArray×Value)}{s:ByteArray}{C:Hp→cG} [hT:Und P T (.map K E)] [hK:Und P K .string] [hE:Inf P E sz bb z] (hx:evo t x=some (.map (some r))) (hy:evo t y=some (.string s)) [hf:Foc H Mv r kv C]:
 St G P ⟨dst, .lookup T x y ok,ty,pos,after,g⟩ t H (fun u H'=> H'=H∧((∃(i:Nat) (v:Value),kv[i]? =some (s,v)∧u=if ok then .tuple #[v, .bool true]else v)∨(s ∉ kv.map (·.1)∧u=if ok then .tuple #[z, .bool false]else z))):=
 fun ρ hρ w hw=> by
  obtain⟨hS,L,hL,hl⟩:=hw
  obtain⟨L1,M,L2,rfl,⟨es,clock,rfl,hk⟩,hB⟩:=hf.foc _ hL
  have hb:w.heap[r]? =some (.map es.toArray clock):=hl.at_ (r, .map es.toArray clock) (an)
  have hg:=MapKept.run_getObj_map (P:=P) hb
  have hck:=MapKept.run_checkKey (P:=P) (w:=w) hK.out (lS s)
  rcases mJ s kv es 0 hk.keys hk.vals with⟨i,v,h1,h2⟩|⟨h1,h2⟩
  ·have h3:=MapKept.run_findKey (P:=P) (w:=w) hK.out h2
   have hr:(execOp ρ ⟨dst, .lookup T x y ok,ty,pos,after,g⟩).run P w= .ok (.value (if ok then .tuple #[v, .bool true]else v)) w:=by
    cases ok <;> simp only[execOp,hρ _ _ hx,hρ _ _ hy,Instr.lookup,Sem.run_bind,da (T:=T),Result.andThen_ok,hg,Sem.run_pure,hck,h3,↓reduceIte,Bool.false_eq_true]
   rw[hr]
   exact⟨H,⟨hS,_,hL,hl⟩,rfl, .inl ⟨i,v,h1,rfl⟩⟩
  ·have h3:=MapKept.run_findKey (P:=P) (w:=w) hK.out h2
   have hr:(execOp ρ ⟨dst, .lookup T x y ok,ty,pos,after,g⟩).run P w= .ok (.value (if ok then .tuple #[z, .bool false]else z)) w:=by
    cases ok <;> simp only[execOp,hρ _ _ hx,hρ _ _ hy,Instr.lookup,Sem.run_bind,da (T:=T),Result.andThen_ok,hg,Sem.run_pure,hck,h3,jA (T:=E),↓reduceIte,Bool.false_eq_true]
   rw[hr]
   exact⟨H,⟨hS,_,hL,hl⟩,rfl, .inr ⟨h1,rfl⟩⟩
theorem O9 {S D E:TypeId}{x:Operand}{q:ByteArray} [hS:Und P S .string] [hD:Und P D (.slice E)] [hE:Und P E (.int .u8)] (hx:evo t x=some (.string q)):
 St G P ⟨dst, .convert S D x,ty,pos,after,g⟩ t H (fun u H'=> ∃s:SV,u=s.val∧H'=Row s eB (cF q)::H):=
 fun ρ hρ w hw=> by
  have h1:=run_bytes_of_string (P:=P) w S D E q hS.out hD.out hE.out
  have hle:q.size≤grownCap w q.size 0 E:=by unfold grownCap;simp only[Question.cut];omega
  have hr:(execOp ρ ⟨dst, .convert S D x,ty,pos,after,g⟩).run P w= .ok (.value (.slice (some ⟨w.heap.size,0,none⟩) q.size (grownCap w q.size 0 E))) (w.drew.alloc (.cells (bytesRow q (grownCap w q.size 0 E)) E ((bytesRow q (grownCap w q.size 0 E)).size,(bytesRow q (grownCap w q.size 0 E)).size+1))):=by
   simp only[execOp,hρ _ _ hx,Sem.run_bind,h1,Result.andThen_ok,Sem.run_pure]
  rw[hr]
  have hw':Sat G w.drew H:=hw.same rfl ⟨hw.1.os,hw.1.tape,hw.1.output⟩
  refine⟨_,(hw'.alloc _).cons (B:=Row ⟨some ⟨w.heap.size,0,none⟩,q.size,grownCap w q.size 0 E⟩ eB (cF q)) fun L hM=> .inr ⟨w.heap.size,_,_,_,rfl,(cL q).symm,hle,hM,?_, .inr (Nat.le_refl _),?_⟩,_,rfl,rfl⟩
  ·have e1:q.data.size=q.size:=rfl
   simp only[bytesRow,Array.size_append,Array.size_map,Array.size_replicate,show eB.sz=1 from rfl,e1];omega
  ·intro j v hv
   rw[B8]at hv
   have hj:=(Yk.1 hv).1
   simp only[Yh,cL]at hj
   have e1:j<(q.data.map (fun b=> Value.int .u8 b.toNat)).size:=by simpa using hj
   rw[bytesRow,Array.getElem?_append_left e1,←hv]
   simp[cF]
   rfl
def eBo:Enc Bool:=⟨fun b=> [.bool b],1,false,fun _=> rfl,fun _ v h=> ba,ag,fun _=> rfl,ag⟩
instance {b:Bool}:fK eBo (.bool b) b:=⟨rfl⟩
instance {b:Bool}:jG eBo b (.bool b):=⟨rfl⟩
theorem Af {f:FuncId}{fn:Func}{e:Array Value→Sem Value}(hf:P.funcs[f]? =some fn) (hn:(fn.name== "runtime.NumGoroutine")=false) (hb:fn.body=none) (h1:Extern.findNext fn=none) (h2:Extern.find fn=some e) (a_s:Array Value) (w:World):
 (callFunc f a_s).run P w=((e a_s).run P w).andThen fun v w=> .ok (.value v) w:=by
 simp only[callFunc,Sem.run_bind,run_program,Result.andThen_ok,hf,hn,hb,h1,h2,Option.isNone_none,↓reduceIte,Bool.false_eq_true]
 rfl
theorem Mk {f:FuncId}{fn:Func}{e:Array Value→Sem Value}{xs:List Operand}{ats:Array TypeId}{vs:List Value}{v:Value}(hf:P.funcs[f]? =some fn) (hn:(fn.name== "runtime.NumGoroutine")=false) (hb:fn.body=none) (h1:Extern.findNext fn=none) (h2:Extern.find fn=some e)
 (hx:qj t xs=some vs) (he:∀w,(e vs.toArray).run P w= .ok v w):St G P ⟨dst, .call ⟨.value (.func f),xs.toArray,ats⟩,ty,pos,after,g⟩ t H (fun u H'=> u=v∧H'=H):=by
 intro ρ hρ w hw
 have h3:ρ (.func f)= .func (.func f) #[] #[]:=hρ _ _ rfl
 have h4:xs.toArray.map ρ=vs.toArray:=bR
 have:(execOp ρ ⟨dst, .call ⟨.value (.func f),xs.toArray,ats⟩,ty,pos,after,g⟩).run P w= .ok (.value v) w:=by
  simp only[execOp,resolve,h3,h4,Deferred.ofValue,Sem.run_bind,Sem.run_pure,Result.andThen_ok]
  simp only[invoke,Array.append_empty,Array.empty_append]
  rw[Af hf hn hb h1 h2,he];rfl
 rw[this]
 exact⟨H,hw,rfl,rfl⟩
def ixR (q:ByteArray) (x:Nat):Int:=match (List.range q.size).find? fun i=> q[i]! ==UInt8.ofNat x with
 |some i=> (i:Int)
 |none=> -1
theorem Je (q:ByteArray) (x:Nat) (w:World):(Extern.BytealgIndexByte.indexByte #[.string q, .int .u8 (x:Int)]).run P w= .ok (.int .i64 (ixR q x)) w:=by
 have h:Extern.BytealgIndexByte.indexByte #[.string q, .int .u8 (x:Int)]=(match (List.range q.size).find? fun i=> q[i]! ==(x:Int).toNat.toUInt8 with
  |some i=> (pure (goInt i):Sem Value)
  |none=> pure (goInt (-1))):=rfl
 rw[h,ixR]
 have e:(x:Int).toNat.toUInt8=UInt8.ofNat x:=rfl
 rw[e]
 cases(List.range q.size).find? fun i=> q[i]! ==UInt8.ofNat x with
 |none=> rfl
 |some i=> rfl
theorem mG {q:ByteArray}{x:Nat}(hx:x<256):0≤ixR q x↔x∈cF q:=by
 unfold ixR
 cases h:(List.range q.size).find? fun i=> q[i]! ==UInt8.ofNat x with
 |none=>
  rw[List.find?_eq_none]at h
  simp only[Int.reduceNeg,Int.reduceLE,false_iff]
  intro hm
  obtain⟨i,hi⟩:=List.mem_iff_getElem?.1 hm
  have hlt:=(Yk.1 hi).1
  rw[cL]at hlt
  have h2:=h i (by simpa using hlt)
  apply h2
  have h3:q[i]! =q[i]:=by simp[hlt]
  rw[h3,beq_iff_eq]
  rw[cF,Xd]at hi
  have h4:q.data.toList[i]? =some q[i]:=by
   rw[Yi (by simpa using hlt)];rfl
  rw[h4]at hi
  simp only[Option.map_some,Option.some.injEq]at hi
  rw[←hi];simp
 |some i=>
  have h1:=List.find?_some h
  have h2:=List.mem_of_find?_eq_some h
  have hlt:i<q.size:=by simpa using h2
  have h3:q[i]! =q[i]:=by simp[hlt]
  rw[h3,beq_iff_eq]at h1
  constructor
  ·intro _
   apply List.mem_iff_getElem?.2
   refine⟨i,?_⟩
   have h4:q.data.toList[i]? =some q[i]:=by
    rw[Yi (by simpa using hlt)];rfl
   rw[cF,Xd,h4,h1]
   simp[Nat.mod_eq_of_lt hx]
  ·intro _;simp only;omega
end
def gZ (n:Nat):ByteArray:=⟨Array.replicate n 0⟩
theorem me (n:Nat):(gZ n).size=n:=by simp[gZ,ByteArray.size]
theorem xp (n:Nat):cF (gZ n)=List.replicate n 0:=by simp[cF,gZ]
theorem xo (n:Nat):Builtin.zeroCells #[.int .u8 0] n=((gZ n).extract 0 n).data.map fun b=> Value.int .u8 b.toNat:=by
 have e:(gZ n).extract 0 n=gZ n:=by
  have:=ByteArray.extract_zero_size (b:=gZ n)
  rwa [me]at this
 rw[e]
 apply Array.ext
 ·simp[Builtin.zeroCells,gZ]
 ·intro i h1 h2
  simp[Builtin.zeroCells,gZ,Nat.mod_one]
variable {P:Program}
theorem rU {w:World}{T T2 T3 E:TypeId}{ty:TypeId}{s:SV}{n bb:Nat} [hT:Und P T (.slice E)] [hT2:Und P T2 (.int .i64)] [hT3:Und P T3 .string] [hE:Inf P E 1 bb (.int .u8 0)] (hn:n*bb≤140737488355328) (hn2:n≤140737488355328) (hl:s.n+n≤140737488355328) (hl2:(s.n+n)*bb≤140737488355328):
 (Builtin.append_ #[T,T2] ty #[s.val, .int .i64 (n:Int)]).run P w=(Builtin.append_ #[T,T3] ty #[s.val, .string (gZ n)]).run P w:=by
 obtain⟨i,hi1,hi2,hi3,hi4⟩:=hE.out
 have hinf:∀w:World,(typeInfo E).run P w= .ok i w:=by intro w;simp[typeInfo,hi1]
 have hw:IntKind.wrap .i64 (n:Int)=n:=iq (aa)
 have h0:¬((n:Int)<0):=aa
 have h1:¬((n:Int)*(i.bytes:Int) > 2 ^ 48):=by
  rw[hi3]
  have:(n:Int)*(bb:Int)=((n*bb:Nat):Int):=an
  rw[this];omega
 have hmx:¬(((s.n+n:Nat):Int) > IntKind.i64.max):=by
  simp only[IntKind.max,IntKind.signed,IntKind.bits];simp;omega
 simp only[Builtin.append_,SV.val]
 simp only[Sem.run_bind,Sem.run_pure,Result.andThen_ok,da (T:=T),da (T:=T2),da (T:=T3),dQ (T:=E) (s:=1),List.getElem?_toArray,Xb,Xc,Bool.false_eq_true,↓reduceIte,asInt,asIntOf,hw,h0,hinf,h1,Builtin.lenOf,me,Int.toNat_natCast]
 have happ:∀w:World,(if n*1=0 then(pure #[]:Sem (Array Value))else do
  let z ←zeroValue E
  pure (Builtin.zeroCells z.cells n)).run P w= .ok (((gZ n).extract 0 n).data.map fun b=> Value.int .u8 b.toNat) w:=by
  intro w
  rw[←xo]
  by_cases hz:n*1=0
  ·obtain rfl:n=0:=by omega
   rw[if_pos hz,Sem.run_pure]
   simp[Builtin.zeroCells]
  ·rw[if_neg hz]
   simp only[Sem.run_bind,jA (T:=E),Result.andThen_ok,Sem.run_pure]
   rfl
 have hstr:∀w:World,(Builtin.firstCells 1 n (.string (gZ n))).run P w= .ok (((gZ n).extract 0 n).data.map fun b=> Value.int .u8 b.toNat) w:=fun w=> rfl
 by_cases hroom:s.n+n≤s.c
 ·simp only[hroom,↓reduceIte,Bool.not_true,Bool.not_false,Bool.false_eq_true,Sem.run_bind,happ,hstr]
 ·have hgr:¬(Builtin.nextslicecap (s.n+n) s.c*i.bytes > 2 ^ 48):=by
   have:=growslice_fits (bytes:=bb) (need:=s.n+n) (old:=s.c) (aa) hl2
   rw[hi3];omega
  simp only[hroom,hmx,hgr,↓reduceIte,Bool.not_true,Bool.not_false,Bool.false_eq_true,Sem.run_bind,happ,hstr,hinf,Result.andThen_ok,false_and]
variable {G:cK}{t:Tm}{H:cG}{dst:Option Tmp}{ty:TypeId}{pos:String}{after:Array Edge}{g:Option (Nat×Bool)}
theorem tj {T T2 T3 E:TypeId}{x y:Operand}{s:SV}{j:Int}{n bb:Nat}{xs:List Nat}{C:Hp→cG}(hx:evo t x=some s.val) (hy:evo t y=some (.int .i64 j)) (hj:j=(n:Int)) (hlim:(xs.length+n)*bb≤140737488355328) (hlim2:xs.length+n≤140737488355328) [hT:Und P T (.slice E)] [hT2:Und P T2 (.int .i64)] (hT3:Und P T3 .string) [hE:Inf P E 1 bb (.int .u8 0)] [hf:nx H s eB xs C] [hs:Sl H s eB xs]:
 St G P ⟨dst, .call ⟨.builtin .append, #[x,y], #[T,T2]⟩,ty,pos,after,g⟩ t H (fun u H'=> ∃s':SV,u=s'.val∧H'=C (Row s' eB (xs++List.replicate n 0))):=
 fun ρ hρ w hw=> by
  subst hj
  obtain⟨q1,_,_⟩:=hs.get hw
  have hl2:(s.n+n)*bb≤140737488355328:=by rw[q1];exact hlim
  have hn1:n*bb≤140737488355328:=Xi (Nat.mul_le_mul_right _ (aa)) hl2
  obtain⟨s',w',hr,hw'⟩:=mq (ty:=ty) (T:=T) (T2:=T3) (d2:= .string) (P:=P) (E:=E) (ys:=cF (gZ n)) (.inl rfl) rfl rfl (hf:=hf) hw (qe (gZ n)) rfl rfl (by rw[cL,me];exact hlim) (by rw[cL,me];exact hlim2)
  rw[←rU (T2:=T2) hn1 (aa) (aa) hl2]at hr
  have:(execOp ρ ⟨dst, .call ⟨.builtin .append, #[x,y], #[T,T2]⟩,ty,pos,after,g⟩).run P w= .ok (.value s'.val) w':=by
   simp only[execOp,resolve,invoke,builtin,List.map_toArray,List.map_cons,List.map_nil,hρ _ _ hx,hρ _ _ hy,Sem.run_bind,Sem.run_pure,Result.andThen_ok,hr]
  rw[this]
  rw[xp]at hw'
  exact⟨_,hw',s',rfl,rfl⟩
theorem wS {T U:TypeId}{x y:Operand}{i j:Int}(hx:evo t x=some (.int .i64 i)) (hy:evo t y=some (.int .i64 j)) (a b:Nat) (ha:i=a) (hb:j=b) (hla:a<9223372036854775808) (hlb:b<9223372036854775808):
 Ev G P ⟨dst, .binOp .or T x y U,ty,pos,after,g⟩ t H (.int .i64 ((a |||b:Nat):Int)):=
 fun ρ hρ w _=> by
  have hlt:a |||b<2 ^ 63:=Nat.or_lt_two_pow (n:=63) hla hlb
  have e:(BitVec.ofInt 64 (a:Int) |||BitVec.ofInt 64 (b:Int)).toNat=a |||b:=by
   rw[fL,fL,BitVec.toNat_or,BitVec.toNat_ofNat,BitVec.toNat_ofNat,Nat.mod_eq_of_lt (aa),Nat.mod_eq_of_lt (aa)]
  have e2:IntKind.wrap .i64 ((a |||b:Nat):Int)=((a |||b:Nat):Int):=iq (aa)
  have e4:IntKind.wrap .i64 (((BitVec.ofInt (IntKind.bits .i64) (a:Int) |||BitVec.ofInt (IntKind.bits .i64) (b:Int)).toNat:Nat):Int)=((a |||b:Nat):Int):=by rw[←e2];exact congrArg (fun n:Nat=> IntKind.wrap .i64 (n:Int)) e
  simp only[execOp,hρ _ _ hx,hρ _ _ hy,eqGuard,binOp,Op.intBits,ha,hb]
  simp only[Sem.run_bind,Sem.run_pure,ne_eq,not_true_eq_false,↓reduceIte]
  rw[e4]
  rfl
end Go.Sx
