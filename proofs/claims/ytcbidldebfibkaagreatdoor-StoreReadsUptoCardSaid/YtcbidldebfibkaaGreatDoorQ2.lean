import Derived.Test.YtcbidldebfibkaaGreatDoorQ1
import Derived.Laws.Append
set_option linter.unusedVariables false
set_option linter.unusedSimpArgs false
set_option linter.unusedSectionVars false
set_option linter.unnecessarySimpa false
set_option maxHeartbeats 0
namespace Go.Sx
open Go
structure Enc (α:Type) where
 f:α→List Value
 sz:Nat
 agg:Bool
 len:∀x,(f x).length=sz
 one:∀x,∀v∈f x,v.oneCell'=true
 pos:0<sz
 h1:agg=false→sz=1
 small:sz≤64
def Enc.v {α:Type}(e:Enc α) (x:α):Value:=bif e.agg then .agg (e.f x).toArray else(e.f x).headD (.tuple #[])
theorem Enc.v_one {α:Type}(e:Enc α) (x:α) (h:e.agg=false):e.f x= [e.v x]:=by
 have h2:=e.len x
 rw[e.h1 h]at h2
 unfold Enc.v
 rw[h]
 match hf:e.f x,h2 with
 | [a],_=> rfl
theorem Enc.v_agg {α:Type}(e:Enc α) (x:α) (h:e.agg=true):e.v x= .agg (e.f x).toArray:=by
 unfold Enc.v;rw[h];rfl
theorem Enc.v_cells {α:Type}(e:Enc α) (x:α):(e.v x).cells=(e.f x).toArray:=by
 cases h:e.agg with
 |true=> rw[e.v_agg x h];rfl
 |false=>
  have h2:=e.v_one x h
  have h3:=e.one x (e.v x) (by rw[h2];simp)
  rw[h2]
  cases hv:e.v x <;> rw[hv]at h3 <;> simp_all [Value.cells,Value.oneCell']
def Enc.all {α:Type}(e:Enc α) (xs:List α):List Value:=xs.flatMap e.f
theorem iL {α:Type}(e:Enc α):e.all []= []:=rfl
theorem Enc.all_cons {α:Type}(e:Enc α) (x:α) (xs:List α):e.all (x::xs)=e.f x++e.all xs:=rfl
theorem Enc.all_append {α:Type}(e:Enc α) (xs ys:List α):e.all (xs++ys)=e.all xs++e.all ys:=by simp[Enc.all]
theorem Enc.all_length {α:Type}(e:Enc α) (xs:List α):(e.all xs).length=xs.length*e.sz:=by
 induction xs with
 |nil=> simp[iL]
 |cons x xs ih=> rw[Enc.all_cons,Ya,e.len,ih,Yb,Nat.add_mul];omega
theorem Enc.all_one {α:Type}(e:Enc α) (xs:List α):∀v∈e.all xs,v.oneCell'=true:=by
 intro v hv
 obtain⟨x,_,hx⟩:=List.mem_flatMap.1 hv
 exact e.one x v hx
theorem Enc.all_take {α:Type}(e:Enc α) (xs:List α) (n:Nat):e.all (xs.take n)=(e.all xs).take (n*e.sz):=by
 induction xs generalizing n with
 |nil=> simp[iL]
 |cons x xs ih=>
  cases n with
  |zero=> simp[iL]
  |succ n=>
   rw[List.take_succ_cons,Enc.all_cons,Enc.all_cons,ih,List.take_append,e.len]
   rw[show(n+1)*e.sz - e.sz=n*e.sz from bE]
   rw[List.take_of_length_le (l:=e.f x) (by rw[e.len,Nat.add_mul];omega)]
theorem Enc.all_drop {α:Type}(e:Enc α) (xs:List α) (n:Nat):e.all (xs.drop n)=(e.all xs).drop (n*e.sz):=by
 induction xs generalizing n with
 |nil=> simp[iL]
 |cons x xs ih=>
  cases n with
  |zero=> simp
  |succ n=>
   rw[List.drop_succ_cons,Enc.all_cons,ih,List.drop_append,e.len]
   rw[show(n+1)*e.sz - e.sz=n*e.sz from bE]
   rw[List.drop_of_length_le (l:=e.f x) (by rw[e.len,Nat.add_mul];omega)]
   simp
theorem Enc.all_get {α:Type}(e:Enc α) (xs:List α) (i j:Nat) (x:α) (hx:xs[i]? =some x) (hj:j<e.sz):(e.all xs)[i*e.sz+j]? =(e.f x)[j]? :=by
 induction xs generalizing i with
 |nil=> simp at hx
 |cons y ys ih=>
  rw[Enc.all_cons]
  cases i with
  |zero=>
   simp at hx;subst hx
   rw[Yv (bx)];simp
  |succ i=>
   simp at hx
   rw[Yu (by rw[e.len,Nat.add_mul];omega),e.len,←ih i hx]
   congr 1
   rw[Nat.add_mul];omega
structure SV where
 a:Option Addr
 n:Nat
 c:Nat
def SV.val (s:SV):Value:= .slice s.a s.n s.c
instance {s:SV}:sG s.val:=⟨rfl⟩
def SV.nil:SV:=⟨none,0,0⟩
def eB:Enc Nat:=⟨fun n=> [.int .u8 (n:Int)],1,false,fun _=> rfl,fun _ v h=> aZ,ag,fun _=> rfl,ag⟩
def eI:Enc Int:=⟨fun n=> [.int .i64 n],1,false,fun _=> rfl,fun _ v h=> aZ,ag,fun _=> rfl,ag⟩
def eS:Enc ByteArray:=⟨fun s=> [.string s],1,false,fun _=> rfl,fun _ v h=> aZ,ag,fun _=> rfl,ag⟩
def eSV:Enc SV:=⟨fun s=> [s.val],1,false,fun _=> rfl,fun _ v h=> aZ,ag,fun _=> rfl,ag⟩
def SlL {α:Type}(s:SV) (e:Enc α) (xs:List α) (L:nD):Prop:=
 s.n=xs.length∧s.n≤s.c∧((xs= []∧s.c=0)∨∃b off C E fz,s.a=some ⟨b,off,none⟩∧(b,Obj.cells C E fz)∈L∧off+s.c*e.sz≤C.size∧∀j v,(e.all xs)[j]? =some v→C[off+j]? =some v)
class Sl (H:cG) (s:SV) {α:outParam Type}(e:outParam (Enc α)) (xs:outParam (List α)):Prop where
 out:∀L,Sep H L→SlL s e xs L
theorem SlL.mono {α:Type}{s:SV}{e:Enc α}{xs:List α}{L L':nD}(h:SlL s e xs L) (hs:∀x∈L,x∈L'):SlL s e xs L':=by
 obtain⟨h1,h2,h3⟩:=h
 refine⟨h1,h2,h3.imp id ?_⟩
 rintro⟨b,off,C,E,fz,h4,h5,h6⟩
 exact⟨b,off,C,E,fz,h4,hs _ h5,h6⟩
instance Sl.tail {A:Hp}{H:cG}{s:SV}{α:Type}{e:Enc α}{xs:List α} [h:Sl H s e xs]:Sl (A::H) s e xs:=
 ⟨fun L hL=> by obtain⟨L1,L2,rfl,_,h2⟩:=hL;exact(h.out _ h2).mono fun x hx=> Yx _ hx⟩
def Okf (n:Nat) (fz:Nat×Nat):Prop:=fz.1=fz.2∨n≤fz.1
theorem Okf.free {n:Nat}{fz:Nat×Nat}(h:Okf n fz) (j:Nat) (hj:j<n):¬(fz.1≤j∧j<fz.2):=by
 rcases h with h|h <;> omega
def Row {α:Type}(s:SV) (e:Enc α) (xs:List α):Hp:=fun L=>
 (s=SV.nil∧xs= []∧L= [])∨∃(b:Nat) (C:Array Value) (E:TypeId) (fz:Nat×Nat),s.a=some ⟨b,0,none⟩∧s.n=xs.length∧s.n≤s.c∧L= [(b, .cells C E fz)]∧C.size=s.c*e.sz∧Okf C.size fz∧∀(j:Nat) (v:Value),(e.all xs)[j]? =some v→C[j]? =some v
theorem Row.slL {α:Type}{s:SV}{e:Enc α}{xs:List α}{L:nD}(h:Row s e xs L):SlL s e xs L:=by
 rcases h with⟨rfl,rfl,rfl⟩|⟨b,C,E,fz,h1,h2,h3,rfl,h5,_,h7⟩
 ·exact⟨rfl,Nat.le_refl _, .inl ⟨rfl,rfl⟩⟩
 ·exact⟨h2,h3, .inr ⟨b,0,C,E,fz,h1,aj,a8,fun j v hv=> by rw[Nat.zero_add];exact h7 j v hv⟩⟩
instance Sl.row {H:cG}{s:SV}{α:Type}{e:Enc α}{xs:List α}:Sl (Row s e xs::H) s e xs:=
 ⟨fun L hL=> by
  obtain⟨L1,L2,rfl,h1,h2⟩:=hL
  exact h1.slL.mono fun x hx=> Yy _ hx⟩
class o9 (H:cG) (s:SV) {α:outParam Type}(e:outParam (Enc α)) (xs:outParam (List α)) (C:outParam (Hp→cG)):Prop where
 foc:∀L,Sep H L→∃L1 M L2,L=L1++(M++L2)∧Row s e xs M∧∀(B:Hp) M',B M'→Sep (C B) (L1++(M'++L2))
instance o9.tail {A:Hp}{H:cG}{s:SV}{α:Type}{e:Enc α}{xs:List α}{C:Hp→cG} [h:o9 H s e xs C]:o9 (A::H) s e xs (fun B=> A::C B):=
 ⟨fun L hL=> by
  obtain⟨N1,N2,rfl,hA,h2⟩:=hL
  obtain⟨L1,M,L2,rfl,hM,hB⟩:=h.foc _ h2
  exact⟨N1++L1,M,L2,aj,hM,fun B M' hm=> ⟨N1,L1++(M'++L2),aj,hA,hB B M' hm⟩⟩⟩
instance o9.head {H:cG}{s:SV}{α:Type}{e:Enc α}{xs:List α}:o9 (Row s e xs::H) s e xs (fun B=> B::H):=
 ⟨fun L hL=> by
  obtain⟨L1,L2,rfl,h1,h2⟩:=hL
  exact⟨[],L1,L2,rfl,h1,fun B M' hm=> ⟨M',L2,rfl,hm,h2⟩⟩⟩
theorem Sl.get {G:cM}{w:World}{H:cG}{s:SV}{α:Type}{e:Enc α}{xs:List α}(h:Sl H s e xs) (hs:Sat G w H):
 s.n=xs.length∧s.n≤s.c∧((xs= []∧s.c=0)∨∃b off C E fz,s.a=some ⟨b,off,none⟩∧w.heap[b]? =some (.cells C E fz)∧off+s.c*e.sz≤C.size∧∀j v,(e.all xs)[j]? =some v→C[off+j]? =some v):=by
 obtain⟨_,L,hL,hl⟩:=hs
 obtain⟨h1,h2,h3⟩:=h.out L hL
 refine⟨h1,h2,h3.imp id ?_⟩
 rintro⟨b,off,C,E,fz,h4,h5,h6⟩
 exact⟨b,off,C,E,fz,h4,hl.at_ _ h5,h6⟩
def SV.elt (s:SV) (sz i off:Nat):Option Addr:=s.a.map fun a=> ⟨a.block,a.off+(i*sz+off),none⟩
def SV.cut (s:SV) (sz lo hi:Nat):SV:=⟨if s.c=lo then s.a else s.a.map (·.add (lo*sz)),hi - lo,s.c - lo⟩
theorem Sl.cut {H:cG}{s:SV}{α:Type}{e:Enc α}{xs:List α}(h:Sl H s e xs) {lo hi:Nat}(h1:lo≤hi) (h2:hi≤xs.length):Sl H (s.cut e.sz lo hi) e ((xs.take hi).drop lo):=by
 refine⟨fun L hL=> ?_⟩
 obtain⟨q1,q2,q3⟩:=h.out L hL
 refine⟨by simp[SV.cut];omega,by simp only[SV.cut];omega,?_⟩
 rcases q3 with⟨rfl,q6⟩|⟨b,off,C,E,fz,q4,q5,q6,q7⟩
 ·left
  simp at h2
  subst h2
  obtain rfl:lo=0:=a8
  exact⟨aj,by simp[SV.cut,q6]⟩
 ·right
  by_cases hc:s.c=lo
  ·refine⟨b,off,C,E,fz,by simp[SV.cut,hc,q4],q5,by simp only[SV.cut,hc];simp;omega,fun j v hv=> ?_⟩
   have:(xs.take hi).drop lo= []:=by
    apply List.drop_of_length_le;simp;omega
   rw[this]at hv
   simp[iL]at hv
  ·refine⟨b,off+lo*e.sz,C,E,fz,by simp[SV.cut,hc,q4,iK],q5,?_,fun j v hv=> ?_⟩
   ·simp only[SV.cut]
    rw[Nat.sub_mul]
    have:lo*e.sz≤s.c*e.sz:=Nat.mul_le_mul_right _ (a8)
    omega
   ·rw[Enc.all_drop,Enc.all_take,Xh]at hv
    rw[Nat.add_assoc]
    refine q7 _ v ?_
    by_cases hk:lo*e.sz+j<hi*e.sz
    ·rwa [List.getElem?_take_of_lt hk]at hv
    ·rw[List.getElem?_take_eq_none (a8)]at hv;cases hv
section
variable {G:cM}{P:Program}{N:Nat}{Q:fY}{t:Tm}{H:cG}{dst:Option Tmp}{ty:TypeId}{pos:String}{after:Array Edge}{g:Option (Nat×Bool)}
theorem df {T:TypeId}{d:TypeDesc} [h:Und P T d] (w:World):(underlying T).run P w= .ok d w:=by simp[underlying,h.out]
theorem Lg {x:Operand}{T E:TypeId}{ats:Array TypeId}{s:SV}{α:Type}{e:Enc α}{xs:List α}(hx:evo t x=some s.val) (ha:ats[0]? =some T) [hT:Und P T (.slice E)] [hs:Sl H s e xs]:
 Ev G P ⟨dst, .call ⟨.builtin .len, #[x],ats⟩,ty,pos,after,g⟩ t H (.int .i64 ((xs.length:Nat):Int)):=
 fun ρ hρ w hw=> by
  obtain⟨h1,_⟩:=hs.get hw
  simp[execOp,resolve,invoke,builtin,Builtin.len_,hρ _ _ hx,ha,df (T:=T),SV.val,goInt,h1]
theorem Ap {x:Operand}{T:TypeId}{ats:Array TypeId}{s:ByteArray}(hx:evo t x=some (.string s)) (ha:ats[0]? =some T) [hT:Und P T .string]:
 Ev G P ⟨dst, .call ⟨.builtin .len, #[x],ats⟩,ty,pos,after,g⟩ t H (.int .i64 ((s.size:Nat):Int)):=
 fun ρ hρ w _=> by
  simp[execOp,resolve,invoke,builtin,Builtin.len_,hρ _ _ hx,ha,df (T:=T),goInt]
theorem cO {x ix:Operand}{T E:TypeId}{s:SV}{α:Type}{e:Enc α}{xs:List α}{sz bb:Nat}{z:Value}{k:IntKind}{j:Int}(hx:evo t x=some s.val) (hi:evo t ix=some (.int k j)) [hT:Und P T (.slice E)] [hE:Inf P E sz bb z] [hs:Sl H s e xs]
 (i:Nat) (hj:j=i) (hlt:i<xs.length):
 Ev G P ⟨dst, .indexAddr T x ix,ty,pos,after,g⟩ t H (.pointer (s.elt sz i 0)):=
 fun ρ hρ w hw=> by
  obtain⟨h1,_,h3⟩:=hs.get hw
  rcases h3 with⟨rfl,_⟩|⟨b,off,C,E',fz,h4,_⟩
  ·simp at hlt
  ·have h5:¬(s.n≤i):=by omega
   simp[execOp,hρ _ _ hx,hρ _ _ hi,Instr.indexAt,asIntOf,hj,df (T:=T),SV.val,h4,h5,dZ (T:=E) (s:=sz),iK,SV.elt]
theorem rA {T:TypeId}{x:Operand}{s:SV}{k sz i o off o':Nat}(hx:evo t x=some (.pointer (s.elt sz i o))) {α:Type}{e:Enc α}{xs:List α} [hs:Sl H s e xs] (hlt:i<xs.length) [hf:Fld P T k off] [ha:xf o off o']:
 Ev G P ⟨dst, .fieldAddr T x k,ty,pos,after,g⟩ t H (.pointer (s.elt sz i o')):=
 fun ρ hρ w hw=> by
  rw[←ha.out]
  obtain⟨h1,_,h3⟩:=hs.get hw
  rcases h3 with⟨rfl,_⟩|⟨b,of',C,E',fz,h4,_⟩
  ·simp at hlt
  ·obtain⟨fs,f,i',q1,q2,q3,q4,q5⟩:=hf.out
   have hx':=hρ _ _ hx
   simp only[SV.elt,h4,Option.map_some]at hx'
   simp[execOp,hx',Instr.fieldAt,underlying,q1,q2,Instr.sureAddr,fieldPlace,sizeOf,typeInfo,q4,q5,q3,iK,SV.elt,h4,Nat.add_assoc]
theorem sn {T:TypeId}{x:Operand}{s:SV}{i o:Nat}{v:Value}{α:Type}{e:Enc α}{xs:List α}(hx:evo t x=some (.pointer (s.elt e.sz i o))) [hT:One P T] [hs:Sl H s e xs] (y:α) (hy:xs[i]? =some y) (hc:(e.f y)[o]? =some v):
 Ev G P ⟨dst, .load T x,ty,pos,after,g⟩ t H v:=
 fun ρ hρ w hw=> by
  obtain⟨h1,_,h3⟩:=hs.get hw
  rcases h3 with⟨rfl,_⟩|⟨b,of',C,E',fz,h4,hb,_,h6⟩
  ·simp at hy
  ·have hx':=hρ _ _ hx
   simp only[SV.elt,h4,Option.map_some]at hx'
   have ho:o<e.sz:=by rw[←e.len y];exact(Yk.1 hc).1
   have h8:w.cell? ⟨b,of'+(i*e.sz+o),none⟩=some v:=by
    rw[nn hb];exact h6 _ v (by rw[e.all_get xs i o y hy ho];exact hc)
   simp[execOp,hx',Instr.loadAt,Instr.sureAddr,loadVar,ik,h8]
theorem uX {T:TypeId}{x:Operand}{s:SV}{i:Nat}{α:Type}{e:Enc α}{xs:List α}(hx:evo t x=some (.pointer (s.elt e.sz i 0))) (ha:e.agg=false) [hT:One P T] [hs:Sl H s e xs] (y:α) (hy:xs[i]? =some y):
 Ev G P ⟨dst, .load T x,ty,pos,after,g⟩ t H (e.v y):=
 sn hx y hy (by rw[e.v_one y ha];rfl)
theorem uE {T:TypeId}{x:Operand}{s:SV}{i:Nat}{α:Type}{e:Enc α}{xs:List α}(hx:evo t x=some (.pointer (s.elt e.sz i 0))) (ha:e.agg=true) [hT:Agg P T e.sz] [hs:Sl H s e xs] (y:α) (hy:xs[i]? =some y):
 Ev G P ⟨dst, .load T x,ty,pos,after,g⟩ t H (e.v y):=
 fun ρ hρ w hw=> by
  obtain⟨h1,_,h3⟩:=hs.get hw
  rcases h3 with⟨rfl,_⟩|⟨b,of',C,E',fz,h4,hb,_,h6⟩
  ·simp at hy
  ·have hx':=hρ _ _ hx
   simp only[SV.elt,h4,Option.map_some]at hx'
   have h8:=eO (P:=P) (o:=of'+(i*e.sz+0)) hb (e.f y) (fun j v hv=> by
    have ho:j<e.sz:=by rw[←e.len y];exact(Yk.1 hv).1
    rw[Nat.add_assoc,Nat.add_zero]
    exact h6 _ v (by rw[e.all_get xs i j y hy ho];exact hv))
   rw[e.len]at h8
   rw[e.v_agg y ha]
   simp only[execOp,hx',Instr.loadAt,Instr.sureAddr,loadVar,Sem.run_bind,Sem.run_pure,Result.andThen_ok,re (n:=e.sz),lf (n:=e.sz),h8,↓reduceIte]
theorem yC {T E:TypeId}{x:Operand}{lo hi:Option Operand}{s:SV}{α:Type}{e:Enc α}{xs:List α}{bb:Nat}{z:Value}(hx:evo t x=some s.val) [hT:Und P T (.slice E)] [hE:Inf P E e.sz bb z] [hs:Sl H s e xs]
 (l h:Nat) (hlo:match lo with|none=> l=0|some o=> ∃k j,evo t o=some (.int k j)∧j=(l:Int)) (hhi:match hi with|none=> h=xs.length|some o=> ∃k j,evo t o=some (.int k j)∧j=(h:Int)) (h1:l≤h) (h2:h≤xs.length):
 Ev G P ⟨dst, .slice T x lo hi none,ty,pos,after,g⟩ t H (s.cut e.sz l h).val:=
 fun ρ hρ w hw=> by
  obtain⟨q1,q2,_⟩:=hs.get hw
  have e1:(Instr.sliceBounds true s.n s.c (lo.map ρ) (hi.map ρ) none).run P w= .ok (l,h,s.c) w:=by
   have b1:∀(j:Nat) (k:IntKind) (y:Nat) (cd:BoundsCode),j≤y→(Instr.sliceBound (.int k (j:Int)) y cd).run P w= .ok j w:=by
    intro j k y cd hj
    have:(j:Int)≤(y:Int):=a8
    simp[Instr.sliceBound,asIntOf,this]
   cases lo with
   |none=>
    simp only at hlo
    subst hlo
    cases hi with
    |none=> simp only at hhi;subst hhi;simp[Instr.sliceBounds,q1]
    |some o=>
     obtain⟨k,j,h3,h4⟩:=hhi
     subst h4
     simp[Instr.sliceBounds,hρ _ _ h3,b1 h k s.c _ (a8)]
   |some o'=>
    obtain⟨k',j',h5,h6⟩:=hlo
    subst h6
    cases hi with
    |none=> simp only at hhi;subst hhi;simp[Instr.sliceBounds,hρ _ _ h5,b1 l k' xs.length _ (a8),q1]
    |some o=>
     obtain⟨k,j,h3,h4⟩:=hhi
     subst h4
     simp[Instr.sliceBounds,hρ _ _ h3,hρ _ _ h5,b1 h k s.c _ (a8),b1 l k' h _ (a8)]
  simp only[execOp,hρ _ _ hx,Instr.sliceAt,SV.val,Option.map_none,Sem.run_bind,df (T:=T),Result.andThen_ok]
  simp only[Instr.slice,Sem.run_bind,df (T:=T),Result.andThen_ok,e1,dZ (T:=E) (s:=e.sz),Sem.run_pure]
  rfl
end
theorem nv {P:Program}(sz:Nat) (s:SV) (w:World):(Builtin.firstCells sz 0 s.val).run P w= .ok #[] w:=by
 cases h:s.a <;> simp[Builtin.firstCells,SV.val,h,loadCells,loadCellsFrom]
def sF (t:Tm):List (Nat×Operand)→Option (List (Nat×Value))
 | []=> some []
 |(i,x)::xs=> match evo t x,sF t xs with
  |some v,some vs=> some ((i,v)::vs)
  |_,_=> none
theorem qt {t:Tm}{ρ:Operand→Value}(hρ:zg t ρ):∀{xs:List (Nat×Operand)}{vs:List (Nat×Value)},sF t xs=some vs→xs.map (fun(i,x)=> (i,ρ x))=vs
 | [],_,h=> by cases h;rfl
 |(i,x)::xs,vs,h=> by
  simp only[sF]at h
  split at h
  ·rename_i v us h1 h2
   cases h
   rw[List.map_cons,qt hρ h2]
   simp only[hρ x v h1]
  ·cases h
def Enc.parts {α:Type}(e:Enc α):Nat→List α→List (Nat×Value)
 |_, []=> []
 |k,x::xs=> (k,e.v x)::e.parts (k+1) xs
theorem vN (cs:List Value):∀(C:Array Value) (o k:Nat),(cs.zipIdx k).foldl (fun cs (x:Value×Nat)=> cs.setIfInBounds (o+x.2) x.1) C=fk C (o+k) cs:=by
 induction cs with
 |nil=> intro C o k;rfl
 |cons c cs ih=> intro C o k;simp only[List.zipIdx_cons,List.foldl_cons,fk];rw[ih];rfl
theorem Am {α:Type}(e:Enc α):∀(xs:List α) (k:Nat) (C:Array Value),(k+xs.length)*e.sz≤C.size→Instr.fill (fun i=> some (i*e.sz,e.sz)) C (e.parts k xs)=some (fk C (k*e.sz) (e.all xs)):=by
 intro xs
 induction xs with
 |nil=> intro k C _;rfl
 |cons x xs ih=>
  intro k C h
  simp only[Yb]at h
  have h2:k*e.sz+e.sz≤C.size:=by
   refine Xi ?_ h
   rw[show k*e.sz+e.sz=(k+1)*e.sz from bE]
   exact Nat.mul_le_mul_right _ (a8)
  have h3:∀o,((e.f x).toArray.zipIdx.foldl (fun cs (y:Value×Nat)=> cs.setIfInBounds (o+y.2) y.1) C)=fk C o (e.f x):=by
   intro o
   rw[←Array.foldl_toList]
   have:=vN (e.f x) C o 0
   simpa using this
  simp only[Enc.parts,Instr.fill,e.v_cells]
  rw[if_neg (by simp[e.len];exact h2)]
  have h4:=ih (k+1) (fk C (k*e.sz) (e.f x)) (by rw[fT];exact Xi (Nat.mul_le_mul_right _ (a8)) h)
  have h5:=h3 (k*e.sz)
  rw[h5,h4,Enc.all_cons]
  congr 1
  apply Array.ext_getElem?
  intro j
  have hsz:(k+(xs.length+1))*e.sz=k*e.sz+e.sz+xs.length*e.sz:=by
   rw[Nat.add_mul,Nat.add_mul];omega
  have hk1:(k+1)*e.sz=k*e.sz+e.sz:=bE
  rw[gO _ _ _ _ (by rw[fT,Enc.all_length,hk1];omega),gO _ _ _ _ (bx),gO _ _ _ _ (by rw[Ya,e.len,Enc.all_length];omega)]
  simp only[Ya,e.len,Enc.all_length,hk1]
  by_cases c1:k*e.sz+e.sz≤j∧j<k*e.sz+e.sz+xs.length*e.sz
  ·rw[if_pos c1,if_pos (a8),Yu (bx),e.len]
   congr 1;omega
  ·rw[if_neg c1]
   by_cases c2:k*e.sz≤j∧j<k*e.sz+e.sz
   ·rw[if_pos c2,if_pos (a8),Yv (bx)]
   ·rw[if_neg c2,if_neg (a8)]
section
variable {G:cM}{P:Program}{N:Nat}{Q:fY}{t:Tm}{H:cG}{dst:Option Tmp}{ty:TypeId}{pos:String}{after:Array Edge}{g:Option (Nat×Bool)}
theorem Sat.newRow {w:World}{α:Type}(hw:Sat G w H) (e:Enc α) (xs:List α) (C:Array Value) (E:TypeId) (n c:Nat) (hn:n=xs.length) (hc:n≤c) (hs:C.size=c*e.sz) (hC:∀(j:Nat) (v:Value),(e.all xs)[j]? =some v→C[j]? =some v):
 Sat G {w with heap:=w.heap.push (.cells C E)} (Row ⟨some ⟨w.heap.size,0,none⟩,n,c⟩ e xs::H):=
 (hw.alloc _).cons fun _ hM=> .inr ⟨w.heap.size,C,E,(0,0),rfl,hn,hc,hM,hs, .inl rfl,hC⟩
theorem dp {T E:TypeId}{n bb:Nat}{z:Value}{ps:List (Nat×Operand)}{α:Type}(e:Enc α) (xs:List α) [hT:Und P T (.slice E)] [hE:Inf P E e.sz bb z] (hp:sF t ps=some (e.parts 0 xs)) (hn:n=xs.length) (hb:n*e.sz≤16777216):
 St G P ⟨dst, .buildSlice T n ps.toArray,ty,pos,after,g⟩ t H (fun u H'=> ∃s:SV,u=s.val∧H'=Row s e xs::H):=
 fun ρ hρ w hw=> by
  subst hn
  have h2:(ps.toArray.map fun(i,x)=> (i,ρ x)).toList=e.parts 0 xs:=by simp[qt hρ hp]
  have hr:∃C:Array Value,C.size=xs.length*e.sz∧(∀(j:Nat) (v:Value),(e.all xs)[j]? =some v→C[j]? =some v)∧(execOp ρ ⟨dst, .buildSlice T xs.length ps.toArray,ty,pos,after,g⟩).run P w= .ok (.value (.slice (some ⟨w.heap.size,0,none⟩) xs.length xs.length)) {w with heap:=w.heap.push (.cells C E)}:=by
   have hnot:¬(xs.length*e.sz > 2 ^ 24):=a8
   obtain⟨Z,hZ⟩:∃Z,(if xs.length*e.sz=0 then #[]else z.cells:Array Value)=Z:=⟨_,rfl⟩
   have hf:=Am e xs 0 ((Array.range (xs.length*e.sz)).map (Z[· % Z.size]!)) (aj)
   refine⟨fk ((Array.range (xs.length*e.sz)).map (Z[· % Z.size]!)) (0*e.sz) (e.all xs),?_,?_,?_⟩
   ·rw[fT];simp
   ·intro j v hv
    have hj:j<xs.length*e.sz:=by rw[←e.all_length];exact(Yk.1 hv).1
    rw[gO _ _ _ _ (by simp[Enc.all_length])]
    rw[if_pos (by rw[e.all_length];omega)]
    simpa using hv
   ·have hm:(ps.toArray.map fun(i,x)=> (i,ρ x)).toList=e.parts 0 xs:=h2
    simp only[execOp,Instr.buildSlice,Sem.run_bind,df (T:=T),Result.andThen_ok,dZ (T:=E) (s:=e.sz),hnot,↓reduceIte,hm]
    by_cases h0:xs.length*e.sz=0
    ·rw[if_pos h0]at hZ⊢
     subst hZ
     simp only[Sem.run_bind,Sem.run_pure,Result.andThen_ok]
     rw[hf];rfl
    ·rw[if_neg h0]at hZ⊢
     subst hZ
     simp only[Sem.run_bind,Sem.run_pure,Result.andThen_ok,kx (T:=E)]
     rw[hf];rfl
  obtain⟨C,hC1,hC2,hr⟩:=hr
  rw[hr]
  exact⟨_,hw.newRow e xs C E _ _ rfl (Nat.le_refl _) hC1 hC2,⟨some ⟨w.heap.size,0,none⟩,xs.length,xs.length⟩,rfl,rfl⟩
theorem Sat.nilRow {w:World}{α:Type}(hw:Sat G w H) (e:Enc α):Sat G w (Row SV.nil e []::H):=by
 obtain⟨hs,L,hL,hl⟩:=hw
 exact⟨hs,L,⟨[],L,rfl, .inl ⟨rfl,rfl,rfl⟩,hL⟩,hl⟩
theorem o9.split {w:World}{s:SV}{α:Type}{e:Enc α}{xs:List α}{C:Hp→cG}(h:o9 H s e xs C) (hw:Sat G w H):
 ∃L1 M L2,kD w (L1++(M++L2))∧Row s e xs M∧∀(B:Hp) M',B M'→Sep (C B) (L1++(M'++L2)):=by
 obtain⟨_,L,hL,hl⟩:=hw
 obtain⟨L1,M,L2,rfl,hM,hB⟩:=h.foc _ hL
 exact⟨L1,M,L2,hl,hM,hB⟩
theorem kD.push {w:World}{L1 M L2:nD}(h:kD w (L1++(M++L2))) (o:Obj):kD {w with heap:=w.heap.push o} (L1++([(w.heap.size,o)]++L2)):=by
 have hsub:(L1++L2).Sublist (L1++(M++L2)):=(List.Sublist.refl L1).append (List.sublist_append_right M L2)
 have hn:((L1++L2).map (·.1)).Nodup:=(hsub.map _).nodup h.nodup
 have hlt:∀x∈L1++L2,x.1<w.heap.size:=fun x hx=> h.lt (hsub.subset hx)
 have hperm:(L1++([(w.heap.size,o)]++L2)).Perm ((w.heap.size,o)::(L1++L2)):=by
  simp
 refine⟨?_,?_⟩
 ·rw[(hperm.map _).nodup_iff,List.map_cons,List.nodup_cons]
  refine⟨fun hm=> ?_,hn⟩
  obtain⟨x,hx,he⟩:=List.mem_map.1 hm
  have:=hlt x hx
  simp only at he
  omega
 ·intro x hx
  rcases List.mem_cons.1 (hperm.mem_iff.1 hx)with rfl|hx
  ·simp
  ·have h1:=hlt x hx
   simp only[Array.getElem?_push]
   rw[if_neg (a8)]
   exact h.at_ x (hsub.subset hx)
def GB (P:Program) (sz:Nat) (v:Value) (m:Nat) (cs:List Value) (w:World):Prop:=
 (Builtin.lenOf v).run P w= .ok m w∧∀d,(Builtin.firstCells sz m v).run P {w with drawn:=d}= .ok cs.toArray {w with drawn:=d}
theorem pr {w:World}{T T2 E:TypeId}{d2:TypeDesc}{s:SV}{v z:Value}{m sz bb:Nat}{cs:List Value}{α:Type}{e:Enc α}{xs ys:List α}{C:Hp→cG} [hT:Und P T (.slice E)] [hT2:Und P T2 d2] [hE:Inf P E sz bb z] (hd2:d2= .string∨∃e2,d2= .slice e2) (hsz:sz=e.sz) (hzc:z.cells.size=sz)
 [hf:o9 H s e xs C] (hw:Sat G w H) (hg:GB P sz v m cs w) (hcs:cs=e.all ys) (hm:m=ys.length) (hlim:(xs.length+ys.length)*bb≤140737488355328) (hlim2:xs.length+ys.length≤140737488355328):
 ∃(s':SV) (w':World),(Builtin.append_ #[T,T2] ty #[s.val,v]).run P w= .ok s'.val w'∧Sat G w' (C (Row s' e (xs++ys))):=by
 subst hsz hcs hm
 obtain⟨hg1,hg2⟩:=hg
 have hg2w:=hg2 w.drawn
 obtain⟨L1,M,L2,hl,hM,hB⟩:=hf.split hw
 obtain⟨i,hi1,hi2,hi3,hi4⟩:=hE.out
 have hone:=e.all_one ys
 have hsn:s.n=xs.length∧s.n≤s.c:=by
  rcases hM with⟨rfl,rfl,_⟩|⟨b,C0,E0,fz,_,h2,h3,_⟩
  ·exact⟨rfl,Nat.le_refl _⟩
  ·exact⟨h2,h3⟩
 rcases hd2 with rfl|⟨e2,rfl⟩
 all_goals
  by_cases hroom:s.n+ys.length≤s.c
  ·
   rcases hM with⟨rfl,rfl,rfl⟩|⟨b,C0,E0,fz,h1,h2,h3,rfl,h5,h6,h7⟩
   ·obtain rfl:ys= []:=by
     simp[SV.nil]at hroom;exact hroom
    refine⟨SV.nil,w,?_,hw.1,_,hB _ [] (.inl ⟨rfl,rfl,rfl⟩),bA⟩
    simp only[Builtin.append_,SV.nil,SV.val]
    simp only[Sem.run_bind,Sem.run_pure,Result.andThen_ok,df (T:=T),dZ (T:=E) (s:=e.sz),List.getElem?_toArray,Xb,Xc,df (T:=T2),hg1,Bool.false_eq_true,↓reduceIte,Bool.not_false,Nat.add_zero,Yc,Nat.le_refl]
    have:=hg2w
    simp only[Yc]at this
    rw[this]
    rfl
   ·have hbw:w.heap[b]? =some (.cells C0 E0 fz):=hl.at_ (b, .cells C0 E0 fz) (aj)
    have hfit:s.n*e.sz+(e.all ys).length≤C0.size:=by
     rw[e.all_length,h5,←Nat.add_mul];exact Nat.mul_le_mul_right _ hroom
    have hst:=fS (P:=P) (o:=s.n*e.sz) (e.all ys) 0 C0 w hbw (fun j _ h=> h6.free j (a8)) (a8) hone
    refine⟨⟨some ⟨b,0,none⟩,s.n+ys.length,s.c⟩,er w b (.cells (fk C0 (s.n*e.sz) (e.all ys)) E0 fz),?_,⟨hw.1.os,hw.1.tape,hw.1.output⟩,_,hB _ [(b, .cells (fk C0 (s.n*e.sz) (e.all ys)) E0 fz)] (.inr ⟨b,_,E0,fz,rfl,by simp[h2],hroom,rfl,by rw[fT,h5],by rw[fT];exact h6,?_⟩),?_⟩
    ·simp only[Builtin.append_,SV.val,h1]
     simp only[Sem.run_bind,Sem.run_pure,Result.andThen_ok,df (T:=T),dZ (T:=E) (s:=e.sz),List.getElem?_toArray,Xb,Xc,df (T:=T2),hg1,Bool.false_eq_true,↓reduceIte,Bool.not_false,hroom]
     rw[hg2w]
     simp only[Result.andThen_ok,iK,Nat.zero_add]
     simp only[Nat.add_zero]at hst
     rw[hst]
     rfl
    ·intro j u hu
     rw[gO _ _ _ _ hfit]
     rw[e.all_append]at hu
     have hlx:(e.all xs).length=s.n*e.sz:=by rw[e.all_length,h2]
     by_cases hj:j<s.n*e.sz
     ·rw[if_neg (a8)]
      rw[Yv (a8)]at hu
      exact h7 j u hu
     ·rw[Yu (a8),hlx]at hu
      rw[if_pos ⟨a8,by have:=(Yk.1 hu).1;omega⟩]
      exact hu
    ·have:=kD.change (w':=er w b (.cells (fk C0 (s.n*e.sz) (e.all ys)) E0 fz)) (L1:=L1) (L2:=L2) (b:=b) (o:= .cells C0 E0 fz) (o':= .cells (fk C0 (s.n*e.sz) (e.all ys)) E0 fz) (bA) (gu hbw) (fun i hi _=> fI hi)
     simpa using this
  ·
   have hgt:s.c<s.n+ys.length:=a8
   have hn63:¬((s.n+ys.length:Nat):Int) > IntKind.i64.max:=by
    simp only[IntKind.max,IntKind.signed,IntKind.bits];simp;omega
   have h48:¬(Builtin.nextslicecap (s.n+ys.length) s.c*bb > 2 ^ 48):=by
    have:=growslice_fits (bytes:=bb) hgt (by rw[hsn.1];exact hlim)
    omega
   have holds:∀d,(Builtin.firstCells e.sz s.n s.val).run P {w with drawn:=d}= .ok (e.all xs).toArray {w with drawn:=d}:=by
    intro d
    rcases hM with⟨rfl,rfl,rfl⟩|⟨b,C0,E0,fz,h1,h2,h3,rfl,h5,h6,h7⟩
    ·rfl
    ·have hbw:({w with drawn:=d}:World).heap[b]? =some (.cells C0 E0 fz):=hl.at_ (b, .cells C0 E0 fz) (aj)
     have:=eO (P:=P) (o:=0) hbw (e.all xs) (fun j v hv=> by rw[Nat.zero_add];exact h7 j v hv)
     rw[e.all_length,←h2]at this
     simp only[Builtin.firstCells,SV.val,h1,this]
   let q:Question:= .appendCap (s.n+ys.length) s.c E
   let nc:Nat:=q.cut (w.tape w.drawn q)
   have hnc:s.n+ys.length≤nc:=by
    show s.n+ys.length≤(s.n+ys.length)+_
    omega
   have hzn:(Builtin.zeroCells z.cells (nc - (s.n+ys.length))).size=(nc - (s.n+ys.length))*e.sz:=by
    simp[Builtin.zeroCells,hzc]
   refine⟨⟨some ⟨w.heap.size,0,none⟩,s.n+ys.length,nc⟩,{w with drawn:=w.drawn+1,heap:=w.heap.push (.cells ((e.all xs).toArray++(e.all ys).toArray++Builtin.zeroCells z.cells (nc - (s.n+ys.length))) E)},?_,⟨hw.1.os,hw.1.tape,hw.1.output⟩,_,
    hB _ [(w.heap.size, .cells ((e.all xs).toArray++(e.all ys).toArray++Builtin.zeroCells z.cells (nc - (s.n+ys.length))) E)] (.inr ⟨w.heap.size,_,E,(0,0),rfl,by simp[hsn.1],hnc,rfl,?_, .inl rfl,?_⟩),?_⟩
   ·have hq:q.forced=false:=rfl
    have hinf:∀w:World,(typeInfo E).run P w= .ok i w:=by intro w;simp[typeInfo,hi1]
    have hso:=holds (w.drawn+1)
    have hgo:=hg2 (w.drawn+1)
    have c1:¬(((s.n+ys.length:Nat):Int) > IntKind.i64.max∧(false=true∨i.bytes=0)):=fun h=> hn63 h.1
    simp only[Builtin.append_,SV.val]at hso⊢
    simp only[Sem.run_bind,Sem.run_pure,Result.andThen_ok,df (T:=T),dZ (T:=E) (s:=e.sz),List.getElem?_toArray,Xb,Xc,df (T:=T2),hg1,Bool.false_eq_true,↓reduceIte,Bool.not_false,hroom,hinf,hi3]
    rw[if_neg (by rw[←hi3];exact fun h=> hn63 h.1)]
    simp only[Sem.run_bind,hinf,hi3,Result.andThen_ok]
    rw[if_neg h48]
    simp only[Sem.run_bind,Sem.run_pure,run_choose]
    rw[show(Question.appendCap (s.n+ys.length) s.c E).forced=false from rfl]
    simp only[Bool.false_eq_true,↓reduceIte,Result.andThen_ok,hinf,run_askRoom,hso,hgo,kx (T:=E)]
    rfl
   ·rw[Array.size_append,Array.size_append,hzn]
    simp only[List.size_toArray,e.all_length,←Nat.add_mul]
    congr 1
    omega
   ·intro j u hu
    rw[e.all_append]at hu
    have hj:=(Yk.1 hu).1
    rw[Array.getElem?_append_left (by simp at hj⊢;exact hj)]
    simpa using hu
   ·have:=hl.push (.cells ((e.all xs).toArray++(e.all ys).toArray++Builtin.zeroCells z.cells (nc - (s.n+ys.length))) E)
    exact⟨this.nodup,this.at_⟩
theorem ek {T T2 E E2:TypeId}{x y:Operand}{s s2:SV}{sz bb:Nat}{z:Value}{α:Type}{e:Enc α}{xs ys:List α}{C:Hp→cG}(hx:evo t x=some s.val) (hy:evo t y=some s2.val) [hT:Und P T (.slice E)] [hT2:Und P T2 (.slice E2)] [hE:Inf P E sz bb z] [hf:o9 H s e xs C] [hs:Sl H s2 e ys]
 (hsz:sz=e.sz) (hzc:z.cells.size=sz) (hlim:(xs.length+ys.length)*bb≤140737488355328) (hlim2:xs.length+ys.length≤140737488355328):
 St G P ⟨dst, .call ⟨.builtin .append, #[x,y], #[T,T2]⟩,ty,pos,after,g⟩ t H (fun u H'=> ∃s':SV,u=s'.val∧H'=C (Row s' e (xs++ys))):=
 fun ρ hρ w hw=> by
  subst hsz
  have hg:GB P e.sz s2.val ys.length (e.all ys) w:=by
   obtain⟨h1,_,h3⟩:=hs.get hw
   refine⟨by simp[Builtin.lenOf,SV.val,h1],fun d=> ?_⟩
   rcases h3 with⟨rfl,_⟩|⟨b,off,C0,E0,fz,h4,hb,_,h6⟩
   ·rw[Yc,nv,iL]
   ·have:=eO (P:=P) (w:={w with drawn:=d}) (o:=off) hb (e.all ys) h6
    rw[e.all_length]at this
    simp only[Builtin.firstCells,SV.val,h4,this]
  obtain⟨s',w',hr,hw'⟩:=pr (ty:=ty) (T:=T) (T2:=T2) (d2:= .slice E2) (P:=P) (E:=E) (.inr ⟨E2,rfl⟩) rfl hzc (hf:=hf) hw hg rfl rfl hlim hlim2
  have:(execOp ρ ⟨dst, .call ⟨.builtin .append, #[x,y], #[T,T2]⟩,ty,pos,after,g⟩).run P w= .ok (.value s'.val) w':=by
   simp only[execOp,resolve,invoke,builtin,List.map_toArray,List.map_cons,List.map_nil,hρ _ _ hx,hρ _ _ hy,Sem.run_bind,Sem.run_pure,Result.andThen_ok,hr]
  rw[this]
  exact⟨_,hw',s',rfl,rfl⟩
end
end Go.Sx
