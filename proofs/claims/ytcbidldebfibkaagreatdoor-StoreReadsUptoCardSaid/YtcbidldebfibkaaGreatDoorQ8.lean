import Derived.Test.YtcbidldebfibkaaGreatDoorQ7
import Derived.Laws.IdiomStrings
import Derived.Maps.RangeRun
import Derived.Laws.Cover1
set_option linter.unusedVariables false
set_option linter.unusedSimpArgs false
set_option linter.unusedSectionVars false
set_option linter.unnecessarySimpa false
set_option maxHeartbeats 0
namespace Go.Sx
open Go
section
variable {G:cM}{P:Program}{N:Nat}{Q:fY}{t:Tm}{H:cG}{ops:Array Oper}{dst:Option Tmp}{ty:TypeId}{pos:String}{after:Array Edge}{g:Option (Nat×Bool)}{l:List Oper}
theorem qX {recv:Operand}{name:String}{xs:List Operand}{ats:Array TypeId}{vs ws:List Value}{T:TypeId}{v:Value}{f:FuncId}{K:Value→cG→Prop}(hr:evo t recv=some (.iface T v)) (hx:uB t xs=some vs)
 (hm:∀w,(callMethod (.iface T v) name vs.toArray).run P w= .ok (.enter f ws.toArray) w) (hc:SC G P f ws H K):St G P ⟨dst, .call ⟨.invoke recv name,xs.toArray,ats⟩,ty,pos,after,g⟩ t H K:=by
 intro ρ hρ w hw
 have h1:=hρ _ _ hr
 have h2:xs.toArray.map ρ=vs.toArray:=by rw[List.map_toArray,qu hρ hx]
 have:(execOp ρ ⟨dst, .call ⟨.invoke recv name,xs.toArray,ats⟩,ty,pos,after,g⟩).run P w= .ok (.enter f ws.toArray) w:=by
  simp only[execOp,resolve,h1,h2,Sem.run_bind,Sem.run_pure,Result.andThen_ok,invoke]
  have e:(#[Value.iface T v]++vs.toArray)[0]? =some (Value.iface T v):=aj
  have e2:(#[Value.iface T v]++vs.toArray).extract 1 (#[Value.iface T v]++vs.toArray).size=vs.toArray:=aj
  simp only[e,e2]
  exact hm w
 rw[this]
 exact hc.call w hw
structure MvE (es:List MapEntry) (clock:Nat) (kv:List (ByteArray×Value)):Prop where
 stamped:MapKept.Stamped es.toArray clock
 keys:es.map (·.key)=kv.map fun p=> Value.string p.1
 vals:es.map (·.val)=kv.map (·.2)
def Mv (r:Nat) (kv:List (ByteArray×Value)):Hp:=fun L=> ∃(es:List MapEntry) (clock:Nat),L= [(r, .map es.toArray clock)]∧MvE es clock kv
theorem nd (k:ByteArray):∀(kv:List (ByteArray×Value)) (es:List MapEntry) (i:Nat),es.map (·.key)=kv.map (fun p=> Value.string p.1)→es.map (·.val)=kv.map (·.2)→
 (∃j v,kv[j]? =some (k,v)∧Instr.findNow .string (.string k) es i=some (some (i+j,v)))∨(k ∉ kv.map (·.1)∧Instr.findNow .string (.string k) es i=some none)
 | [],es,i,h,_=> by
  obtain rfl:es= []:=bY
  exact .inr ⟨aj,rfl⟩
 |q::ks, [],i,h,_=> bC
 |q::ks,e::es,i,h,hv=> by
  simp only[List.map_cons,List.cons.injEq]at h hv
  obtain⟨h1,h2⟩:=h
  obtain⟨h3,h4⟩:=hv
  have hn:Instr.findNow .string (.string k) (e::es) i=match Instr.sameNow .string (.string k) (.string q.1)with
   |some true=> some (some (i,e.val))
   |some false=> Instr.findNow .string (.string k) es (i+1)
   |none=> none:=by rw[←h1];rfl
  rw[hn]
  by_cases hk:k=q.1
  ·subst hk
   have hb:(q.1==q.1)=true:=(MapKept.bytes_beq q.1 q.1).2 rfl
   left
   simp only[Instr.sameNow,hb]
   exact⟨0,q.2,aj,by rw[h3];rfl⟩
  ·have hb:(k==q.1)=false:=by
    cases h:(k==q.1)with
    |false=> rfl
    |true=> exact absurd ((MapKept.bytes_beq k q.1).1 h) hk
   simp only[Instr.sameNow,hb]
   rcases nd k ks es (i+1) h2 h4 with⟨j,v,h5,h6⟩|⟨h5,h6⟩
   ·exact .inl ⟨j+1,v,by simpa using h5,by rw[h6];simp only[Option.some.injEq,Prod.mk.injEq,and_true];omega⟩
   ·exact .inr ⟨fun h=> by
     rcases List.mem_cons.1 h with h|h
     ·exact hk h
     ·exact h5 h,h6⟩
theorem C6 {T K E:TypeId}{x:Operand}{k:IntKind}{i:Int} [hT:Und P T (.map K E)] (hx:evo t x=some (.int k i)):
 St G P ⟨dst, .makeMap T (some x),ty,pos,after,g⟩ t H (fun u H'=> ∃r,u= .map (some r)∧H'=Mv r []::H):=
 fun ρ hρ w hw=> by
  have hr:(execOp ρ ⟨dst, .makeMap T (some x),ty,pos,after,g⟩).run P w= .ok (.value (.map (some w.heap.size))) {w with heap:=w.heap.push (.map #[] 0)}:=by
   simp only[execOp,Option.map_some,Instr.makeMap,hρ _ _ hx,Sem.run_bind,df (T:=T),Result.andThen_ok,asInt,asIntOf,Sem.run_pure,run_newObj]
  rw[hr]
  exact⟨_,(hw.alloc _).cons fun _ hM=> ⟨[],0,hM,⟨MapKept.stamped_empty 0,rfl,rfl⟩⟩,w.heap.size,rfl,rfl⟩
theorem tx {T:TypeId}:
 St G P ⟨dst, .makeMap T none,ty,pos,after,g⟩ t H (fun u H'=> ∃r,u= .map (some r)∧H'=Mv r []::H):=
 fun ρ hρ w hw=> by
  have hr:(execOp ρ ⟨dst, .makeMap T none,ty,pos,after,g⟩).run P w= .ok (.value (.map (some w.heap.size))) {w with heap:=w.heap.push (.map #[] 0)}:=by
   simp only[execOp,Option.map_none,Instr.makeMap,Sem.run_bind,Result.andThen_ok,Sem.run_pure,run_newObj]
  rw[hr]
  exact⟨_,(hw.alloc _).cons fun _ hM=> ⟨[],0,hM,⟨MapKept.stamped_empty 0,rfl,rfl⟩⟩,w.heap.size,rfl,rfl⟩
theorem AX {T K E:TypeId}{x y:Operand}{r sz bb:Nat}{z:Value}{ok:Bool}{kv:List (ByteArray×Value)}{s:ByteArray}{C:Hp→cG} [hT:Und P T (.map K E)] [hK:Und P K .string] [hE:Inf P E sz bb z] (hx:evo t x=some (.map (some r))) (hy:evo t y=some (.string s)) [hf:Foc H Mv r kv C]:
 St G P ⟨dst, .lookup T x y ok,ty,pos,after,g⟩ t H (fun u H'=> H'=H∧((∃(i:Nat) (v:Value),kv[i]? =some (s,v)∧u=if ok then .tuple #[v, .bool true]else v)∨(s ∉ kv.map (·.1)∧u=if ok then .tuple #[z, .bool false]else z))):=
 fun ρ hρ w hw=> by
  obtain⟨hS,L,hL,hl⟩:=hw
  obtain⟨L1,M,L2,rfl,⟨es,clock,rfl,hk⟩,hB⟩:=hf.foc _ hL
  have hb:w.heap[r]? =some (.map es.toArray clock):=hl.at_ (r, .map es.toArray clock) (aj)
  have hg:=MapKept.run_getObj_map (P:=P) hb
  have hck:=MapKept.run_checkKey (P:=P) (w:=w) hK.out (mA s)
  rcases nd s kv es 0 hk.keys hk.vals with⟨i,v,h1,h2⟩|⟨h1,h2⟩
  ·have h3:=MapKept.run_findKey (P:=P) (w:=w) hK.out h2
   have hr:(execOp ρ ⟨dst, .lookup T x y ok,ty,pos,after,g⟩).run P w= .ok (.value (if ok then .tuple #[v, .bool true]else v)) w:=by
    cases ok <;> simp only[execOp,hρ _ _ hx,hρ _ _ hy,Instr.lookup,Sem.run_bind,df (T:=T),Result.andThen_ok,hg,Sem.run_pure,hck,h3,↓reduceIte,Bool.false_eq_true]
   rw[hr]
   exact⟨H,⟨hS,_,hL,hl⟩,rfl, .inl ⟨i,v,h1,rfl⟩⟩
  ·have h3:=MapKept.run_findKey (P:=P) (w:=w) hK.out h2
   have hr:(execOp ρ ⟨dst, .lookup T x y ok,ty,pos,after,g⟩).run P w= .ok (.value (if ok then .tuple #[z, .bool false]else z)) w:=by
    cases ok <;> simp only[execOp,hρ _ _ hx,hρ _ _ hy,Instr.lookup,Sem.run_bind,df (T:=T),Result.andThen_ok,hg,Sem.run_pure,hck,h3,kx (T:=E),↓reduceIte,Bool.false_eq_true]
   rw[hr]
   exact⟨H,⟨hS,_,hL,hl⟩,rfl, .inr ⟨h1,rfl⟩⟩
theorem LN {S D E:TypeId}{x:Operand}{q:ByteArray} [hS:Und P S .string] [hD:Und P D (.slice E)] [hE:Und P E (.int .u8)] (hx:evo t x=some (.string q)):
 St G P ⟨dst, .convert S D x,ty,pos,after,g⟩ t H (fun u H'=> ∃s:SV,u=s.val∧H'=Row s eB (cF q)::H):=
 fun ρ hρ w hw=> by
  have h1:=run_bytes_of_string (P:=P) w S D E q hS.out hD.out hE.out
  have hle:q.size≤grownCap w q.size 0 E:=by unfold grownCap;simp only[Question.cut];omega
  have hr:(execOp ρ ⟨dst, .convert S D x,ty,pos,after,g⟩).run P w= .ok (.value (.slice (some ⟨w.heap.size,0,none⟩) q.size (grownCap w q.size 0 E))) (w.drew.alloc (.cells (bytesRow q (grownCap w q.size 0 E)) E ((bytesRow q (grownCap w q.size 0 E)).size,(bytesRow q (grownCap w q.size 0 E)).size+1))):=by
   simp only[execOp,hρ _ _ hx,Sem.run_bind,h1,Result.andThen_ok,Sem.run_pure]
  rw[hr]
  have hw':Sat G w.drew H:=hw.same rfl ⟨hw.1.os,hw.1.tape,hw.1.output⟩
  refine⟨_,(hw'.alloc _).cons (B:=Row ⟨some ⟨w.heap.size,0,none⟩,q.size,grownCap w q.size 0 E⟩ eB (cF q)) fun L hM=> .inr ⟨w.heap.size,_,_,_,rfl,(cJ q).symm,hle,hM,?_, .inr (Nat.le_refl _),?_⟩,_,rfl,rfl⟩
  ·have e1:q.data.size=q.size:=rfl
   simp only[bytesRow,Array.size_append,Array.size_map,Array.size_replicate,show eB.sz=1 from rfl,e1];omega
  ·intro j v hv
   rw[As]at hv
   have hj:=(Yk.1 hv).1
   simp only[Yh,cJ]at hj
   have e1:j<(q.data.map (fun b=> Value.int .u8 b.toNat)).size:=by simpa using hj
   rw[bytesRow,Array.getElem?_append_left e1,←hv]
   simp[cF]
   rfl
def eBo:Enc Bool:=⟨fun b=> [.bool b],1,false,fun _=> rfl,fun _ v h=> aZ,ag,fun _=> rfl,ag⟩
instance {b:Bool}:fH eBo (.bool b) b:=⟨rfl⟩
instance {b:Bool}:kK eBo b (.bool b):=⟨rfl⟩
theorem zI {f:FuncId}{fn:Func}{e:Array Value→Sem Value}(hf:P.funcs[f]? =some fn) (hn:(fn.name== "runtime.NumGoroutine")=false) (hb:fn.body=none) (h1:Extern.findNext fn=none) (h2:Extern.find fn=some e) (a_s:Array Value) (w:World):
 (callFunc f a_s).run P w=((e a_s).run P w).andThen fun v w=> .ok (.value v) w:=by
 simp only[callFunc,Sem.run_bind,run_program,Result.andThen_ok,hf,hn,hb,h1,h2,Option.isNone_none,↓reduceIte,Bool.false_eq_true]
 rfl
theorem JV {f:FuncId}{fn:Func}{e:Array Value→Sem Value}{xs:List Operand}{ats:Array TypeId}{vs:List Value}{v:Value}(hf:P.funcs[f]? =some fn) (hn:(fn.name== "runtime.NumGoroutine")=false) (hb:fn.body=none) (h1:Extern.findNext fn=none) (h2:Extern.find fn=some e)
 (hx:uB t xs=some vs) (he:∀w,(e vs.toArray).run P w= .ok v w):St G P ⟨dst, .call ⟨.value (.func f),xs.toArray,ats⟩,ty,pos,after,g⟩ t H (fun u H'=> u=v∧H'=H):=by
 intro ρ hρ w hw
 have h3:ρ (.func f)= .func (.func f) #[] #[]:=hρ _ _ rfl
 have h4:xs.toArray.map ρ=vs.toArray:=by rw[List.map_toArray,qu hρ hx]
 have:(execOp ρ ⟨dst, .call ⟨.value (.func f),xs.toArray,ats⟩,ty,pos,after,g⟩).run P w= .ok (.value v) w:=by
  simp only[execOp,resolve,h3,h4,Deferred.ofValue,Sem.run_bind,Sem.run_pure,Result.andThen_ok]
  simp only[invoke,Array.append_empty,Array.empty_append]
  rw[zI hf hn hb h1 h2,he];rfl
 rw[this]
 exact⟨H,hw,rfl,rfl⟩
def ixR (q:ByteArray) (x:Nat):Int:=match (List.range q.size).find? fun i=> q[i]! ==UInt8.ofNat x with
 |some i=> (i:Int)
 |none=> -1
theorem Hr (q:ByteArray) (x:Nat) (w:World):(Extern.BytealgIndexByte.indexByte #[.string q, .int .u8 (x:Int)]).run P w= .ok (.int .i64 (ixR q x)) w:=by
 have h:Extern.BytealgIndexByte.indexByte #[.string q, .int .u8 (x:Int)]=(match (List.range q.size).find? fun i=> q[i]! ==(x:Int).toNat.toUInt8 with
  |some i=> (pure (goInt i):Sem Value)
  |none=> pure (goInt (-1))):=rfl
 rw[h,ixR]
 have e:(x:Int).toNat.toUInt8=UInt8.ofNat x:=rfl
 rw[e]
 cases(List.range q.size).find? fun i=> q[i]! ==UInt8.ofNat x with
 |none=> rfl
 |some i=> rfl
theorem n8 {q:ByteArray}{x:Nat}(hx:x<256):0≤ixR q x↔x∈cF q:=by
 unfold ixR
 cases h:(List.range q.size).find? fun i=> q[i]! ==UInt8.ofNat x with
 |none=>
  rw[List.find?_eq_none]at h
  simp only[Int.reduceNeg,Int.reduceLE,false_iff]
  intro hm
  obtain⟨i,hi⟩:=List.mem_iff_getElem?.1 hm
  have hlt:=(Yk.1 hi).1
  rw[cJ]at hlt
  have h2:=h i (by simpa using hlt)
  apply h2
  have h3:q[i]! =q[i]:=by simp[hlt]
  rw[h3,beq_iff_eq]
  rw[cF,Xd]at hi
  have h4:q.data.toList[i]? =some q[i]:=by
   rw[Yi (by simpa using hlt)];rfl
  rw[h4]at hi
  simp only[Option.map_some,Option.some.injEq]at hi
  rw[←hi];simp
 |some i=>
  have h1:=List.find?_some h
  have h2:=List.mem_of_find?_eq_some h
  have hlt:i<q.size:=by simpa using h2
  have h3:q[i]! =q[i]:=by simp[hlt]
  rw[h3,beq_iff_eq]at h1
  constructor
  ·intro _
   apply List.mem_iff_getElem?.2
   refine⟨i,?_⟩
   have h4:q.data.toList[i]? =some q[i]:=by
    rw[Yi (by simpa using hlt)];rfl
   rw[cF,Xd,h4,h1]
   simp[Nat.mod_eq_of_lt hx]
  ·intro _;simp only;omega
end
def iY (n:Nat):ByteArray:=⟨Array.replicate n 0⟩
theorem mO (n:Nat):(iY n).size=n:=by simp[iY,ByteArray.size]
theorem xh (n:Nat):cF (iY n)=List.replicate n 0:=by simp[cF,iY]
theorem xg (n:Nat):Builtin.zeroCells #[.int .u8 0] n=((iY n).extract 0 n).data.map fun b=> Value.int .u8 b.toNat:=by
 have e:(iY n).extract 0 n=iY n:=by
  have:=ByteArray.extract_zero_size (b:=iY n)
  rwa [mO]at this
 rw[e]
 apply Array.ext
 ·simp[Builtin.zeroCells,iY]
 ·intro i h1 h2
  simp[Builtin.zeroCells,iY,Nat.mod_one]
variable {P:Program}
theorem sD {w:World}{T T2 T3 E:TypeId}{ty:TypeId}{s:SV}{n bb:Nat} [hT:Und P T (.slice E)] [hT2:Und P T2 (.int .i64)] [hT3:Und P T3 .string] [hE:Inf P E 1 bb (.int .u8 0)] (hn:n*bb≤140737488355328) (hn2:n≤140737488355328) (hl:s.n+n≤140737488355328) (hl2:(s.n+n)*bb≤140737488355328):
 (Builtin.append_ #[T,T2] ty #[s.val, .int .i64 (n:Int)]).run P w=(Builtin.append_ #[T,T3] ty #[s.val, .string (iY n)]).run P w:=by
 obtain⟨i,hi1,hi2,hi3,hi4⟩:=hE.out
 have hinf:∀w:World,(typeInfo E).run P w= .ok i w:=by intro w;simp[typeInfo,hi1]
 have hw:IntKind.wrap .i64 (n:Int)=n:=iM (a8)
 have h0:¬((n:Int)<0):=a8
 have h1:¬((n:Int)*(i.bytes:Int) > 2 ^ 48):=by
  rw[hi3]
  have:(n:Int)*(bb:Int)=((n*bb:Nat):Int):=aj
  rw[this];omega
 have hmx:¬(((s.n+n:Nat):Int) > IntKind.i64.max):=by
  simp only[IntKind.max,IntKind.signed,IntKind.bits];simp;omega
 simp only[Builtin.append_,SV.val]
 simp only[Sem.run_bind,Sem.run_pure,Result.andThen_ok,df (T:=T),df (T:=T2),df (T:=T3),dZ (T:=E) (s:=1),List.getElem?_toArray,Xb,Xc,Bool.false_eq_true,↓reduceIte,asInt,asIntOf,hw,h0,hinf,h1,Builtin.lenOf,mO,Int.toNat_natCast]
 have happ:∀w:World,(if n*1=0 then(pure #[]:Sem (Array Value))else do
  let z ←zeroValue E
  pure (Builtin.zeroCells z.cells n)).run P w= .ok (((iY n).extract 0 n).data.map fun b=> Value.int .u8 b.toNat) w:=by
  intro w
  rw[←xg]
  by_cases hz:n*1=0
  ·obtain rfl:n=0:=by omega
   rw[if_pos hz,Sem.run_pure]
   simp[Builtin.zeroCells]
  ·rw[if_neg hz]
   simp only[Sem.run_bind,kx (T:=E),Result.andThen_ok,Sem.run_pure]
   rfl
 have hstr:∀w:World,(Builtin.firstCells 1 n (.string (iY n))).run P w= .ok (((iY n).extract 0 n).data.map fun b=> Value.int .u8 b.toNat) w:=fun w=> rfl
 by_cases hroom:s.n+n≤s.c
 ·simp only[hroom,↓reduceIte,Bool.not_true,Bool.not_false,Bool.false_eq_true,Sem.run_bind,happ,hstr]
 ·have hgr:¬(Builtin.nextslicecap (s.n+n) s.c*i.bytes > 2 ^ 48):=by
   have:=growslice_fits (bytes:=bb) (need:=s.n+n) (old:=s.c) (a8) hl2
   rw[hi3];omega
  simp only[hroom,hmx,hgr,↓reduceIte,Bool.not_true,Bool.not_false,Bool.false_eq_true,Sem.run_bind,happ,hstr,hinf,Result.andThen_ok,false_and]
variable {G:cM}{t:Tm}{H:cG}{dst:Option Tmp}{ty:TypeId}{pos:String}{after:Array Edge}{g:Option (Nat×Bool)}
theorem tz {T T2 T3 E:TypeId}{x y:Operand}{s:SV}{j:Int}{n bb:Nat}{xs:List Nat}{C:Hp→cG}(hx:evo t x=some s.val) (hy:evo t y=some (.int .i64 j)) (hj:j=(n:Int)) (hlim:(xs.length+n)*bb≤140737488355328) (hlim2:xs.length+n≤140737488355328) [hT:Und P T (.slice E)] [hT2:Und P T2 (.int .i64)] (hT3:Und P T3 .string) [hE:Inf P E 1 bb (.int .u8 0)] [hf:o9 H s eB xs C] [hs:Sl H s eB xs]:
 St G P ⟨dst, .call ⟨.builtin .append, #[x,y], #[T,T2]⟩,ty,pos,after,g⟩ t H (fun u H'=> ∃s':SV,u=s'.val∧H'=C (Row s' eB (xs++List.replicate n 0))):=
 fun ρ hρ w hw=> by
  subst hj
  obtain⟨q1,_,_⟩:=hs.get hw
  have hl2:(s.n+n)*bb≤140737488355328:=by rw[q1];exact hlim
  have hn1:n*bb≤140737488355328:=Xi (Nat.mul_le_mul_right _ (a8)) hl2
  obtain⟨s',w',hr,hw'⟩:=pr (ty:=ty) (T:=T) (T2:=T3) (d2:= .string) (P:=P) (E:=E) (ys:=cF (iY n)) (.inl rfl) rfl rfl (hf:=hf) hw (qm (iY n)) rfl rfl (by rw[cJ,mO];exact hlim) (by rw[cJ,mO];exact hlim2)
  rw[←sD (T2:=T2) hn1 (a8) (a8) hl2]at hr
  have:(execOp ρ ⟨dst, .call ⟨.builtin .append, #[x,y], #[T,T2]⟩,ty,pos,after,g⟩).run P w= .ok (.value s'.val) w':=by
   simp only[execOp,resolve,invoke,builtin,List.map_toArray,List.map_cons,List.map_nil,hρ _ _ hx,hρ _ _ hy,Sem.run_bind,Sem.run_pure,Result.andThen_ok,hr]
  rw[this]
  rw[xh]at hw'
  exact⟨_,hw',s',rfl,rfl⟩
theorem IC {T U:TypeId}{x y:Operand}{i j:Int}(hx:evo t x=some (.int .i64 i)) (hy:evo t y=some (.int .i64 j)) (a b:Nat) (ha:i=a) (hb:j=b) (hla:a<9223372036854775808) (hlb:b<9223372036854775808):
 Ev G P ⟨dst, .binOp .or T x y U,ty,pos,after,g⟩ t H (.int .i64 ((a |||b:Nat):Int)):=
 fun ρ hρ w _=> by
  have hlt:a |||b<2 ^ 63:=Nat.or_lt_two_pow (n:=63) hla hlb
  have e:(BitVec.ofInt 64 (a:Int) |||BitVec.ofInt 64 (b:Int)).toNat=a |||b:=by
   rw[gj,gj,BitVec.toNat_or,BitVec.toNat_ofNat,BitVec.toNat_ofNat,Nat.mod_eq_of_lt (a8),Nat.mod_eq_of_lt (a8)]
  have e2:IntKind.wrap .i64 ((a |||b:Nat):Int)=((a |||b:Nat):Int):=iM (a8)
  have e4:IntKind.wrap .i64 (((BitVec.ofInt (IntKind.bits .i64) (a:Int) |||BitVec.ofInt (IntKind.bits .i64) (b:Int)).toNat:Nat):Int)=((a |||b:Nat):Int):=by rw[←e2];exact congrArg (fun n:Nat=> IntKind.wrap .i64 (n:Int)) e
  simp only[execOp,hρ _ _ hx,hρ _ _ hy,eqGuard,binOp,Op.intBits,ha,hb]
  simp only[Sem.run_bind,Sem.run_pure,ne_eq,not_true_eq_false,↓reduceIte]
  rw[e4]
  rfl
end Go.Sx
namespace Go.Sx
open Go
section
variable {G:cM}{P:Program}{N:Nat}{Q:fY}{t:Tm}{H:cG}{dst:Option Tmp}{ty:TypeId}{pos:String}{after:Array Edge}{g:Option (Nat×Bool)}
theorem xD {T K E:TypeId}{x y v:Operand}{r i:Nat}{u u0:Value}{kv:List (ByteArray×Value)}{s:ByteArray}{C:Hp→cG}(hx:evo t x=some (.map (some r))) (hy:evo t y=some (.string s)) (hv:evo t v=some u) (hi:kv[i]? =some (s,u0)) (hnd:(kv.map (·.1)).Nodup) [hT:Und P T (.map K E)] [hK:Und P K .string] [hf:Foc H Mv r kv C]:
 St G P ⟨dst, .mapUpdate T x y v,ty,pos,after,g⟩ t H (fun u' H'=> u'=undef∧H'=C (Mv r (kv.set i (s,u)))):=
 fun ρ hρ w hw=> by
  obtain⟨hS,L,hL,hl⟩:=hw
  obtain⟨L1,M,L2,rfl,⟨es,clock,rfl,hk⟩,hB⟩:=hf.foc _ hL
  have hb:w.heap[r]? =some (.map es.toArray clock):=hl.at_ (r, .map es.toArray clock) (aj)
  have hg:=MapKept.run_getObj_map (P:=P) hb
  have hck:=MapKept.run_checkKey (P:=P) (w:=w) hK.out (mA s)
  rcases nd s kv es 0 hk.keys hk.vals with⟨j,v',h1,h2⟩|⟨h1,h2⟩
  ·have hji:j=i:=by
    have hjl:=(Yk.1 h1).1
    exact(List.getElem?_inj (by rw[Yh];exact hjl) hnd).1 (by rw[Xd,Xd,h1,hi];rfl)
   subst hji
   have hlen:es.length=kv.length:=bQ
   have hjl:=(Yk.1 h1).1
   obtain⟨e0,he0⟩:∃e,es[j]? =some e:=⟨_,Yi (a8)⟩
   have hkey:e0.key= .string s:=by
    have:=congrArg (·[j]?) hk.keys
    simp only[Xd,he0,h1,Option.map_some,Option.some.injEq]at this
    exact this
   have h3:=MapKept.run_findKey (P:=P) (w:=w) hK.out h2
   have hks:(Instr.keyThatStays (((es.toArray[0+j]?).map (·.key)).getD (.string s)) (.string s)).run P w= .ok (.string s) w:=by
    rw[Nat.zero_add]
    simp only[List.getElem?_toArray,he0,Option.map_some,Option.getD_some,hkey,Instr.keyThatStays]
    have hb2:Instr.sameBits 10000 (.string s) (.string s)=true:=by
     show(s==s)=true
     exact(MapKept.bytes_beq s s).2 rfl
    rw[if_pos hb2];rfl
   have hso:=MapKept.run_setObj_map (P:=P) (.map (es.toArray.modify (0+j) fun e=> {e with key:= .string s,val:=u}) clock) hb
   have hr:(execOp ρ ⟨dst, .mapUpdate T x y v,ty,pos,after,g⟩).run P w= .ok .skip (er w r (.map (es.toArray.modify (0+j) fun e=> {e with key:= .string s,val:=u}) clock)):=by
    simp only[execOp,hρ _ _ hx,hρ _ _ hy,hρ _ _ hv,Instr.mapUpdate,Sem.run_bind,df (T:=T),Result.andThen_ok,hg,hck,h3,hks,hso,Sem.run_pure]
    rfl
   have hst:MapKept.Stamped (es.toArray.modify (0+j) fun e=> {e with key:= .string s,val:=u}) clock:=
    MapKept.stamped_modify hk.stamped (0+j) _ (fun _ _=> rfl) (fun e _ he=> by
     simp only[Nat.zero_add,List.getElem?_toArray,he0,Option.some.injEq]at he
     rw[←he];exact hkey.symm)
   rw[hr]
   have hlist:es.toArray.modify (0+j) (fun e=> {e with key:= .string s,val:=u})=(es.modify j fun e=> {e with key:= .string s,val:=u}).toArray:=aj
   rw[hlist]at hst⊢
   refine⟨C (Mv r (kv.set j (s,u))),⟨⟨hS.os,hS.tape,hS.output⟩,_,hB _ [(r, .map (es.modify j fun e=> {e with key:= .string s,val:=u}).toArray clock)] ⟨_,clock,rfl,⟨hst,?_,?_⟩⟩,?_⟩,rfl,rfl⟩
   ·apply List.ext_getElem?
    intro m
    have hm:=congrArg (·[m]?) hk.keys
    simp only[Xd,List.getElem?_modify,List.getElem?_set]at hm⊢
    by_cases hmj:j=m
    ·subst hmj;simp[he0,hjl]
    ·simp only[hmj,if_false,Option.map_eq_map,id_map']at hm⊢
     simpa using hm
   ·apply List.ext_getElem?
    intro m
    have hm:=congrArg (·[m]?) hk.vals
    simp only[Xd,List.getElem?_modify,List.getElem?_set]at hm⊢
    by_cases hmj:j=m
    ·subst hmj;simp[he0,hjl]
    ·simp only[hmj,if_false,Option.map_eq_map,id_map']at hm⊢
     simpa using hm
   ·have:=kD.change (w':=er w r (.map (es.modify j fun e=> {e with key:= .string s,val:=u}).toArray clock)) (L1:=L1) (L2:=L2) (b:=r) (o:= .map es.toArray clock) (o':= .map (es.modify j fun e=> {e with key:= .string s,val:=u}).toArray clock) (bA) (gu hb) (fun i hi _=> fI hi)
    simpa using this
  ·exact absurd (List.mem_map.2 ⟨_,Yj hi,rfl⟩) h1
structure RgE (es:List MapEntry) (seen:Array Nat) (kv:List (ByteArray×Value)) (done:List ByteArray):Prop where
 was:∀(i:Nat) (e:MapEntry) (p:ByteArray×Value),es[i]? =some e→kv[i]? =some p→(seen.contains e.born=true↔p.1∈done)
 last:∀k,done.getLast? =some k→∃(e:MapEntry) (s0:Array Nat) (j:Nat),es[j]? =some e∧(∃v,kv[j]? =some (k,v))∧seen=s0.push e.born
def Rg (i:Nat×Nat) (q:List (ByteArray×Value)×List ByteArray):Hp:=fun L=> ∃(es:List MapEntry) (clock:Nat) (seen:Array Nat),L= [(i.1, .map es.toArray clock),(i.2, .mapIter (some i.1) clock seen clock)]∧MvE es clock q.1∧RgE es seen q.1 q.2
theorem DF {T K E:TypeId}{x:Operand}{r:Nat}{kv:List (ByteArray×Value)}{R:cG}(hx:evo t x=some (.map (some r))) [hT:Und P T (.map K E)] [hr:Rem H Mv r kv R]:
 St G P ⟨dst, .range T x,ty,pos,after,g⟩ t H (fun u H'=> ∃it,u= .pointer (some ⟨it,0,none⟩)∧H'=Rg (r,it) (kv, [])::R):=
 fun ρ hρ w hw=> by
  have hw2:=hr.sat hw
  obtain⟨hS,L,⟨L1,L2,rfl,⟨es,clock,rfl,hk⟩,hL2⟩,hl⟩:=hw2
  have hb:w.heap[r]? =some (.map es.toArray clock):=hl.at_ (r, .map es.toArray clock) (aj)
  have hg:=MapKept.run_getObj_map (P:=P) hb
  have hrr:(execOp ρ ⟨dst, .range T x,ty,pos,after,g⟩).run P w= .ok (.value (.pointer (some ⟨w.heap.size,0,none⟩))) {w with heap:=w.heap.push (.mapIter (some r) clock #[] clock)}:=by
   simp only[execOp,hρ _ _ hx,Instr.range,Sem.run_bind,df (T:=T),Result.andThen_ok,hg,Sem.run_pure,run_newObj]
  rw[hrr]
  have h2:kD {w with heap:=w.heap.push (.mapIter (some r) clock #[] clock)} (([(r, .map es.toArray clock)]:nD)++([(w.heap.size, .mapIter (some r) clock #[] clock)]++L2)):=kD.push (M:= []) (L1:= [(r, .map es.toArray clock)]) (bA) _
  refine⟨Rg (r,w.heap.size) (kv, [])::R,⟨⟨hS.os,hS.tape,hS.output⟩,_,⟨[(r, .map es.toArray clock),(w.heap.size, .mapIter (some r) clock #[] clock)],L2,rfl,⟨es,clock, #[],rfl,hk,⟨fun _ _ _ _ _=> aj,fun k hk=> by simp at hk⟩⟩,hL2⟩,?_⟩,_,rfl,rfl⟩
  simpa using h2
theorem Hg {x:Operand}{r it:Nat}{q:List (ByteArray×Value)×List ByteArray}{R:cG}(hx:evo t x=some (.pointer (some ⟨it,0,none⟩))) [hr:Rem H Rg (r,it) q R]:
 St G P ⟨dst, .next x false,ty,pos,after,g⟩ t H (fun u H'=> (∃(i:Nat) (k:ByteArray) (v:Value),q.1[i]? =some (k,v)∧k ∉ q.2∧u= .tuple #[.bool true, .string k,v]∧H'=Rg (r,it) (q.1,q.2++ [k])::R)∨((∀p∈q.1,p.1∈q.2)∧u= .tuple #[.bool false]∧H'=Rg (r,it) q::R)):=
 fun ρ hρ w hw=> by
  have hw2:=hr.sat hw
  obtain⟨hS,L,⟨L1,L2,rfl,⟨es,clock,seen,rfl,hk,hs⟩,hL2⟩,hl⟩:=hw2
  have hb:w.heap[r]? =some (.map es.toArray clock):=hl.at_ (r, .map es.toArray clock) (aj)
  have hi:w.heap[it]? =some (.mapIter (some r) clock seen clock):=hl.at_ (it, .mapIter (some r) clock seen clock) (aj)
  have hlen:es.length=q.1.length:=bQ
  have hat:∀(j:Nat) (e:MapEntry),es[j]? =some e→∃p,q.1[j]? =some p∧e.key= .string p.1∧e.val=p.2:=by
   intro j e he
   obtain⟨p,hp⟩:∃p,q.1[j]? =some p:=⟨_,Yi (by have:=(Yk.1 he).1;omega)⟩
   have h1:=congrArg (·[j]?) hk.keys
   have h2:=congrArg (·[j]?) hk.vals
   simp only[Xd,he,hp,Option.map_some,Option.some.injEq]at h1 h2
   exact⟨p,hp,h1,h2⟩
  rcases run_next_at (P:=P) w ty it r clock clock seen es.toArray clock hi hb (fun x hx=> hk.stamped.1 x hx) (Nat.le_refl _)with⟨h0,hrun⟩|⟨e,he,w1,hw1,hrun⟩
  ·have hrr:(execOp ρ ⟨dst, .next x false,ty,pos,after,g⟩).run P w= .ok (.value (.tuple #[.bool false])) w:=by
    simp only[execOp,hρ _ _ hx,Sem.run_bind,hrun,Result.andThen_ok,Sem.run_pure]
   rw[hrr]
   refine⟨Rg (r,it) q::R,⟨hS,_,⟨[(r, .map es.toArray clock),(it, .mapIter (some r) clock seen clock)],L2,rfl,⟨es,clock,seen,rfl,hk,hs⟩,hL2⟩,hl⟩, .inr ⟨fun p hp=> ?_,rfl,rfl⟩⟩
   obtain⟨j,hj⟩:=List.getElem?_of_mem hp
   obtain⟨e,he⟩:∃e,es[j]? =some e:=⟨_,Yi (by have:=(Yk.1 hj).1;omega)⟩
   refine(hs.was j e p he hj).1 ?_
   have hl0:leftOf es.toArray seen= #[]:=Array.eq_empty_of_size_eq_zero h0
   have h5:=Array.filter_eq_empty_iff.1 hl0 e (by simpa using Yj he)
   simpa using h5
  ·have hrr:(execOp ρ ⟨dst, .next x false,ty,pos,after,g⟩).run P w= .ok (.value (.tuple #[.bool true,e.key,e.val])) (ChangeMaps.setBlock w1 it (.mapIter (some r) clock (seen.push e.born) clock)):=by
    simp only[execOp,hρ _ _ hx,Sem.run_bind,hrun,Result.andThen_ok,Sem.run_pure]
   rw[hrr]
   have he2:e∈es∧seen.contains e.born=false:=by
    have:e∈leftOf es.toArray seen:=by simpa using he
    simp only[leftOf,Array.mem_filter]at this
    exact⟨by simpa using this.1,by simpa using this.2⟩
   obtain⟨j,hj⟩:=List.getElem?_of_mem he2.1
   obtain⟨p,hp,hpk,hpv⟩:=hat j e hj
   have hno:p.1 ∉ q.2:=fun hh=> by have:=(hs.was j e p hj hp).2 hh;rw[he2.2]at this;cases this
   have hheap:w1.heap=w.heap:=by rcases hw1 with rfl|rfl <;> rfl
   have hsame:AD G w1:=by rcases hw1 with rfl|rfl <;> exact⟨hS.os,hS.tape,hS.output⟩
   refine⟨Rg (r,it) (q.1,q.2++ [p.1])::R,⟨⟨hsame.os,hsame.tape,hsame.output⟩,_,⟨[(r, .map es.toArray clock),(it, .mapIter (some r) clock (seen.push e.born) clock)],L2,rfl,⟨es,clock,_,rfl,hk,⟨fun m e' p' he' hp'=> ?_,fun k hk=> by simp at hk;subst hk;exact⟨e,seen,j,hj,⟨p.2,hp⟩,rfl⟩⟩⟩,hL2⟩,?_⟩, .inl ⟨j,p.1,p.2,hp,hno,by rw[hpk,hpv],rfl⟩⟩
   ·have hold:=hs.was m e' p' he' hp'
    simp only[Array.contains_iff_mem,Array.mem_push,List.mem_append,List.mem_singleton]at hold⊢
    rw[←hold]
    have hborn:e'.born=e.born↔p'.1=p.1:=by
     have hml:=(Yk.1 he').1
     constructor
     ·intro hh
      have:m=j:=(List.getElem?_inj (by rw[Yh];exact hml) hk.stamped.2.1).1 (by simp only[List.toList_toArray,Xd,he',hj,Option.map_some,hh])
      subst this;rw[hp]at hp';rw[Option.some.inj hp']
     ·intro hh
      have hkk:e'.key=e.key:=by
       obtain⟨p2,h1,h2,_⟩:=hat m e' he'
       rw[hp']at h1;rw[h2,←Option.some.inj h1,hh,hpk]
      have:m=j:=(List.getElem?_inj (by rw[Yh];exact hml) hk.stamped.2.2).1 (by simp only[List.toList_toArray,Xd,he',hj,Option.map_some,hkk])
      subst this;rw[hj]at he';rw[Option.some.inj he']
    rw[hborn]
   ·have hl1:kD w1 (([(r, .map es.toArray clock)]:nD)++(it, .mapIter (some r) clock seen clock)::L2):=⟨hl.nodup,fun x hx=> by rw[hheap];exact hl.at_ x hx⟩
    have hset:(ChangeMaps.setBlock w1 it (.mapIter (some r) clock (seen.push e.born) clock)).heap=w1.heap.setIfInBounds it (.mapIter (some r) clock (seen.push e.born) clock):=rfl
    have hlt:it<w1.heap.size:=by rw[hheap];exact(Array.getElem?_eq_some_iff.1 hi).1
    have:=kD.change (w':=ChangeMaps.setBlock w1 it (.mapIter (some r) clock (seen.push e.born) clock)) (o':= .mapIter (some r) clock (seen.push e.born) clock) hl1 (by rw[hset,Array.getElem?_setIfInBounds,if_pos rfl,if_pos hlt]) (fun i hi _=> by rw[hset,Array.getElem?_setIfInBounds,if_neg (fun h=> hi h.symm)])
    simpa using this
theorem J7 {R H':cG}{r it:Nat}{q:List (ByteArray×Value)×List ByteArray}(hr:Rem H Rg (r,it) q R) (h:cK (Mv r q.1::R) H'):cK H H':=cK.rem hr (cK.trans (fun L hL=> by
 obtain⟨L1,L2,rfl,⟨es,clock,seen,rfl,hk,_⟩,h2⟩:=hL
 exact⟨[(r, .map es.toArray clock)]++L2, [(it, .mapIter (some r) clock seen clock)],⟨[(r, .map es.toArray clock)],L2,rfl,⟨es,clock,rfl,hk⟩,h2⟩,by
  simp only[Yd,Ye,Yf]
  exact List.Perm.cons _ List.perm_append_comm⟩) h)
theorem nM {T:TypeId}{x y:Operand}{s:SV}{i o sz bb:Nat}{z v:Value}{α:Type}{e:Enc α}{xs:List α}{a:α}{C:Hp→cG}(hx:evo t x=some (.pointer (s.elt sz i o))) (hy:evo t y=some v) [hT:Inf P T 1 bb z] [hv1:sG v] [hf:o9 H s e xs C] (hsz:e.sz=sz) (a0:α) (hi:xs[i]? =some a0) (ho:o<e.sz) (ha:e.f a=(e.f a0).set o v):
 St G P ⟨dst, .store T x y,ty,pos,after,g⟩ t H (fun u H'=> u=undef∧H'=C (Row s e (xs.set i a))):=
 fun ρ hρ w hw=> by
  subst hsz
  have hlt:=(Yk.1 hi).1
  obtain⟨L1,M,L2,hl,hM,hB⟩:=hf.split hw
  rcases hM with⟨rfl,rfl,rfl⟩|⟨b,C0,E0,fz,g1,g2,g3,rfl,g5,g6,g7⟩
  ·simp at hlt
  ·have hbw:w.heap[b]? =some (.cells C0 E0 fz):=hl.at_ (b, .cells C0 E0 fz) (aj)
   have hle:i*e.sz+e.sz≤C0.size:=by
    rw[g5,show i*e.sz+e.sz=(i+1)*e.sz from bE]
    exact Nat.mul_le_mul_right _ (a8)
   have hone:v.oneCell'=true:=by
    have h1:=e.one a v
    exact h1 (by rw[ha];exact Yj (List.getElem?_set_self (by rw[e.len];exact ho)))
   have hst:=fS (P:=P) (o:=i*e.sz+o) [v] 0 C0 w hbw (fun j _ h=> g6.free j (by simp at h;omega)) (au) (fun u hu=> by simp at hu;subst hu;exact hone)
   have hcs:v.cells= #[v]:=(nA.single (v:=v)).out
   have hn:v.cells.size=1:=by rw[hcs];rfl
   have hx':=hρ _ _ hx
   simp only[SV.elt,g1,Option.map_some,Nat.zero_add]at hx'
   have hr:(execOp ρ ⟨dst, .store T x y,ty,pos,after,g⟩).run P w= .ok .skip (er w b (.cells (fk C0 (i*e.sz+o) [v]) E0 fz)):=by
    simp only[execOp,hx',hρ _ _ hy,Instr.storeAt,Instr.sureAddr,storeVar,Sem.run_bind,Sem.run_pure,Result.andThen_ok,dZ (T:=T),hn]
    simp only[ne_eq,not_true_eq_false,↓reduceIte]
    rw[hcs]
    simp only[Nat.add_zero]at hst⊢
    rw[hst];rfl
   rw[hr]
   have hput:fk C0 (i*e.sz+o) [v]=fk C0 (i*e.sz) (e.f a):=by
    apply Array.ext_getElem?
    intro j
    rw[gO _ _ _ _ (au),gO _ _ _ _ (by rw[e.len];exact hle),e.len]
    simp only[Yb,Yc,Nat.zero_add]
    by_cases hj:i*e.sz≤j∧j<i*e.sz+e.sz
    ·rw[if_pos hj,ha,List.getElem?_set]
     by_cases hjo:o=j - i*e.sz
     ·rw[if_pos (a8),if_pos hjo,if_pos (by rw[e.len];exact ho),show j - (i*e.sz+o)=0 from a8];rfl
     ·rw[if_neg (a8),if_neg hjo]
      obtain⟨d,rfl⟩:∃d,j=i*e.sz+d:=⟨j - i*e.sz,a8⟩
      have hd:d<e.sz:=a8
      rw[Nat.add_sub_cancel_left,←e.all_get xs i d a0 hi hd]
      obtain⟨u,hu⟩:∃u,(e.all xs)[i*e.sz+d]? =some u:=by
       rw[e.all_get xs i d a0 hi hd]
       exact⟨_,Yi (by rw[e.len];exact hd)⟩
      rw[hu];exact g7 _ u hu
    ·rw[if_neg hj,if_neg (a8)]
   rw[hput]
   refine⟨C (Row s e (xs.set i a)),⟨⟨hw.1.os,hw.1.tape,hw.1.output⟩,_,hB _ [(b, .cells (fk C0 (i*e.sz) (e.f a)) E0 fz)] (.inr ⟨b,_,E0,fz,g1,by rw[List.length_set];exact g2,g3,rfl,by rw[fT,g5],by rw[fT];exact g6,?_⟩),?_⟩,rfl,rfl⟩
   ·intro j u hu
    rw[gO _ _ _ _ (by rw[e.len];exact hle),e.len]
    rw[List.set_eq_take_append_cons_drop,if_pos hlt,e.all_append,e.all_cons]at hu
    have hla:(e.all (xs.take i)).length=i*e.sz:=bI
    by_cases hj:j<i*e.sz
    ·rw[if_neg (a8)]
     rw[Yv (a8),e.all_take,List.getElem?_take_of_lt hj]at hu
     exact g7 j u hu
    ·rw[Yu (a8),hla]at hu
     by_cases hj2:j<i*e.sz+e.sz
     ·rw[if_pos (a8)]
      rw[Yv (bx)]at hu
      exact hu
     ·rw[if_neg (a8)]
      rw[Yu (bx),e.len,e.all_drop,Xh,Nat.add_mul,Nat.one_mul]at hu
      exact g7 j u (by rw[←hu];congr 1;omega)
   ·have:=kD.change (w':=er w b (.cells (fk C0 (i*e.sz) (e.f a)) E0 fz)) (L1:=L1) (L2:=L2) (b:=b) (o:= .cells C0 E0 fz) (o':= .cells (fk C0 (i*e.sz) (e.f a)) E0 fz) (bA) (gu hbw) (fun i hi _=> fI hi)
    simpa using this
theorem BT (a b:ByteArray):a.toList<b.toList↔cF a<cF b:=by
 have key:∀x y:List UInt8,x<y↔x.map (·.toNat)<y.map (·.toNat):=by
  intro x
  induction x with
  |nil=> intro y;cases y <;> simp
  |cons a x ih=>
   intro y
   cases y with
   |nil=> simp
   |cons b y=>
    simp only[List.map_cons,List.cons_lt_cons_iff,ih y,UInt8.lt_iff_toNat_lt,UInt8.toNat_inj]
 rw[ByteArray.toList_eq,ByteArray.toList_eq]
 exact key _ _
theorem qH:∀(x y:List UInt8),Op.bytesLess x y=decide (x<y)
 | [], []=> by simp[Op.bytesLess]
 |_::_, []=> by simp[Op.bytesLess]
 | [],_::_=> by simp[Op.bytesLess]
 |a::x,b::y=> by
  rw[Op.bytesLess,qH x y]
  by_cases h1:a<b
  ·simp[h1,List.cons_lt_cons_iff]
  ·by_cases h2:a=b
   ·subst h2;simp[List.cons_lt_cons_iff]
   ·simp[h1,h2,List.cons_lt_cons_iff]
theorem jE (a b:ByteArray):Op.bytesLess a.toList b.toList=decide (cF a<cF b):=by
 rw[qH]
 exact decide_eq_decide.2 (BT a b)
theorem MQ {T U:TypeId}{x y:Operand}{a b:ByteArray}(hx:evo t x=some (.string a):=by exact rfl) (hy:evo t y=some (.string b):=by exact rfl):Ev G P ⟨dst, .binOp .lss T x y U,ty,pos,after,g⟩ t H (.bool (decide (cF a<cF b))):=
 fun ρ hρ w _=> by
  simp only[execOp,hρ _ _ hx,hρ _ _ hy,eqGuard,binOp_string_lss,jE]
  rfl
theorem MR {T U:TypeId}{x y:Operand}{a b:ByteArray}(hx:evo t x=some (.string a):=by exact rfl) (hy:evo t y=some (.string b):=by exact rfl):Ev G P ⟨dst, .binOp .leq T x y U,ty,pos,after,g⟩ t H (.bool (!decide (cF b<cF a))):=
 fun ρ hρ w _=> by
  have e:(Op.bytesLess a.toList b.toList ||a.toList==b.toList)= !decide (cF b<cF a):=by
   rw[jE,uN,Bool.eq_iff_iff]
   simp only[Bool.or_eq_true,decide_eq_true_eq,Bool.not_eq_true',decide_eq_false_iff_not]
   rw[List.not_lt,List.le_iff_lt_or_eq]
  simp only[execOp,hρ _ _ hx,hρ _ _ hy,eqGuard,binOp_string_leq,e]
  rfl
theorem MT {T U:TypeId}{x y:Operand}{a b:ByteArray}(hx:evo t x=some (.string a):=by exact rfl) (hy:evo t y=some (.string b):=by exact rfl):Ev G P ⟨dst, .binOp .geq T x y U,ty,pos,after,g⟩ t H (.bool (!decide (cF a<cF b))):=
 fun ρ hρ w _=> by
  simp only[execOp,hρ _ _ hx,hρ _ _ hy,eqGuard,binOp_string_geq,jE]
  rfl
end
end Go.Sx
namespace Go.Sx
open Go
section
variable {G:cM}{P:Program}{N:Nat}{Q:fY}{t:Tm}{H:cG}{dst:Option Tmp}{ty:TypeId}{pos:String}{after:Array Edge}{g:Option (Nat×Bool)}
theorem CS {T E:TypeId}{n sz bb s b2:Nat}{z zT:Value}{ps:List (Nat×Operand)}{vs:List (Nat×Value)}(l:List Value) (hp:sF t ps=some vs) [hT:Und P T (.array n E)] [hE:Inf P E sz bb z] [hI:Inf P T s b2 zT] (hf:Instr.fill (fun i=> some (i*sz,sz)) zT.cells vs=some l.toArray):
 Ev G P ⟨dst, .build T ps.toArray,ty,pos,after,g⟩ t H (.agg l.toArray):=
 fun ρ hρ w _=> by
  have e3:(ps.toArray.map fun(i,x)=> (i,ρ x)).toList=vs:=by simp[qt hρ hp]
  simp only[execOp,Instr.build,Sem.run_bind,df (T:=T),kx (T:=T),dZ (T:=E),Result.andThen_ok,e3,hf,Sem.run_pure]
theorem vR {T E:TypeId}{n bb:Nat}{z v:Value}{x ix:Operand}{k:IntKind}{j:Int}{l:List Value}(i:Nat) (hx:evo t x=some (.agg l.toArray)) (hi:evo t ix=some (.int k j)) (hj:j=(i:Int)) [hT:Und P T (.array n E)] [hO:One P E] [hE:Inf P E 1 bb z] (hn:i<n) (hv:l[i]? =some v):
 Ev G P ⟨dst, .index T x ix,ty,pos,after,g⟩ t H v:=
 fun ρ hρ w _=> by
  subst hj
  have h1:(0≤((i:Nat):Int)∧((i:Nat):Int)<((n:Nat):Int)):=a8
  simp only[execOp,Instr.index,hρ _ _ hx,hρ _ _ hi,asIntOf,Sem.run_bind,df (T:=T),dZ (T:=E),ik (T:=E),Result.andThen_ok,Sem.run_pure,if_pos h1,part,Bool.false_eq_true,↓reduceIte,Int.toNat_natCast,Nat.mul_one,List.getElem?_toArray,hv]
end
end Go.Sx
namespace Go.Sx
open Go
section
variable {G:cM}{P:Program}{t:Tm}{H:cG}{dst:Option Tmp}{ty:TypeId}{pos:String}{after:Array Edge}{g:Option (Nat×Bool)}
theorem yl {α β:Type}{f:α→β}{l:List α}(h:(l.map f).Nodup):l.Nodup:=(List.pairwise_map.1 h).imp fun h e=> h (congrArg f e)
theorem II {x:Operand}{T K E:TypeId}{r:Nat}{kv:List (ByteArray×Value)}{C:Hp→cG}(hx:evo t x=some (.map (some r))) [hT:Und P T (.map K E)] [hf:Foc H Mv r kv C]:
 Ev G P ⟨dst, .call ⟨.builtin .len, #[x], #[T]⟩,ty,pos,after,g⟩ t H (.int .i64 ((kv.length:Nat):Int)):=
 fun ρ hρ w hw=> by
  obtain⟨hS,L,hL,hl⟩:=hw
  obtain⟨L1,M,L2,rfl,⟨es,clock,rfl,hk⟩,hB⟩:=hf.foc _ hL
  have hb:w.heap[r]? =some (.map es.toArray clock):=hl.at_ (r, .map es.toArray clock) (aj)
  have hg:=MapKept.run_getObj_map (P:=P) hb
  have hlen:es.length=kv.length:=bQ
  simp only[execOp,resolve,Sem.run_bind,Sem.run_pure,Result.andThen_ok,invoke,builtin,Builtin.len_,List.map_toArray,List.map_cons,List.map_nil,hρ _ _ hx,List.getElem?_toArray,Xb,df (T:=T),hg,goInt,List.size_toArray,hlen]
theorem FT {x:Operand}{r it i:Nat}{q:List (ByteArray×Value)×List ByteArray}{k:ByteArray}{v:Value}{d0:List ByteArray}{C:Hp→cG}(hx:evo t x=some (.pointer (some ⟨it,0,none⟩))) (hd:q.2=d0++ [k]) (hi:q.1[i]? =some (k,v)) [hf:Foc H Rg (r,it) q C]:
 Ev G P ⟨dst, .entry x,ty,pos,after,g⟩ t H (.tuple #[.string k,v]):=
 fun ρ hρ w hw=> by
  obtain⟨hS,L,hL,hl⟩:=hw
  obtain⟨L1,M,L2,rfl,⟨es,clock,seen,rfl,hk,hs⟩,hB⟩:=hf.foc _ hL
  have hb:w.heap[r]? =some (.map es.toArray clock):=hl.at_ (r, .map es.toArray clock) (aj)
  have hit:w.heap[it]? =some (.mapIter (some r) clock seen clock):=hl.at_ (it, .mapIter (some r) clock seen clock) (aj)
  obtain⟨e,s0,j,he,hj,hsn⟩:=hs.last k (by rw[hd];simp)
  obtain⟨v',hj⟩:=hj
  have h1:=congrArg (·[j]?) hk.keys
  have h2:=congrArg (·[j]?) hk.vals
  simp only[Xd,he,hj,Option.map_some,Option.some.injEq]at h1 h2
  have hji:j=i:=by
   have hnd:(q.1.map (·.1)).Nodup:=by
    have h5:=hk.stamped.2.2
    rw[List.toList_toArray,hk.keys,show(fun p:ByteArray×Value=> Value.string p.1)=Value.string∘(·.1)from rfl,←List.map_map]at h5
    exact yl h5
   have hjl:=(Yk.1 hj).1
   exact(List.getElem?_inj (by rw[Yh];exact hjl) hnd).1 (by rw[Xd,Xd,hj,hi];rfl)
  subst hji
  rw[hi]at hj
  cases hj
  have hrun:=run_entry_at (P:=P) w it r clock s0 es.toArray clock e (by rw[←hsn];exact hit) hb (by simpa using Yj he) hk.stamped.2.1
  simp only[execOp,hρ _ _ hx,Sem.run_bind,hrun,Result.andThen_ok,Sem.run_pure,h1,h2]
end
end Go.Sx
namespace Go.Sx
theorem fy {H H':cG}{s:SV}{α:Type}{e:Enc α}{xs:List α}(h:cK H H') (hs:Sl H' s e xs):Sl H s e xs:=Sl.hsub h hs
theorem cK.none {H:cG}:cK H []:=fun L _=> ⟨[],L,rfl,aj⟩
end Go.Sx
