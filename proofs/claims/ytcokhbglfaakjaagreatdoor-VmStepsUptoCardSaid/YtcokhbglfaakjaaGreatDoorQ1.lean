import Derived.Test.YtcokhbglfaakjaaGreatDoorQ0
import Derived.Laws.Append
import Derived.Still
import Derived.Laws.BytesString
import Derived.LaidEql
import Derived.LaidEqlPtr
import Derived.Laws.Strings
set_option linter.all false
set_option maxHeartbeats 0
namespace Go.Sx
open Go
section
variable {E T:TypeId}{ats:Array TypeId}{bb i:Nat}{x:Operand}{α:Type}{xs:List α}{z:Value}
structure Enc (α:Type) where
 f:α→List Value
 sz:Nat
 agg:Bool
 len:∀x,(f x).length=sz
 one:∀x,∀v∈f x,v.oneCell'=true
 pos:0<sz
 h1:agg=false→sz=1
 small:sz≤64
def Enc.v {α:Type}(e:Enc α) (x:α):Value:=bif e.agg then .agg (e.f x).toArray else(e.f x).headD (.tuple #[])
theorem Enc.v_one (e:Enc α) (x:α) (h:e.agg=false):e.f x= [e.v x]:=by
 have h2:=e.len x;rw[e.h1 h]at h2;unfold Enc.v;rw[h]
 match hf:e.f x,h2 with
 | [a],_=>rfl
theorem Enc.v_agg (e:Enc α) (x:α) (h:e.agg=true):e.v x=.agg (e.f x).toArray:=by
 unfold Enc.v;rw[h];rfl
theorem Enc.v_cells (e:Enc α) (x:α):(e.v x).cells=(e.f x).toArray:=by
 cases h:e.agg with
 |true=>rw[e.v_agg x h];rfl
 |false=>
  have h2:=e.v_one x h;have h3:=e.one x (e.v x) (by rw[h2];simp);rw[h2];cases hv:e.v x <;> rw[hv]at h3 <;> simp_all [Value.cells,Value.oneCell']
def Enc.all {α:Type}(e:Enc α) (xs:List α):List Value:=xs.flatMap e.f
theorem Enc.all_nil (e:Enc α):e.all []= []:=rfl
theorem Enc.all_cons (e:Enc α) (x:α) (xs:List α):e.all (x::xs)=e.f x++e.all xs:=rfl
theorem Enc.all_append (e:Enc α) (xs ys:List α):e.all (xs++ys)=e.all xs++e.all ys:=by simp[Enc.all]
theorem Enc.all_length (e:Enc α) (xs:List α):(e.all xs).length=xs.length*e.sz:=by
 induction xs with
 |nil=>simp[Enc.all_nil]
 |cons x xs ih=>rw[Enc.all_cons,Ya,e.len,ih,Yb,Vy];omega
theorem Enc.all_one (e:Enc α) (xs:List α):∀v∈e.all xs,v.oneCell'=true:=by
 intro v hv;obtain⟨x,_,hx⟩:=U4.1 hv;exact e.one x v hx
theorem Enc.all_take (e:Enc α) (xs:List α) (n:Nat):e.all (xs.take n)=(e.all xs).take (n*e.sz):=by
 induction xs generalizing n with
 |nil=>simp[Enc.all_nil]
 |cons x xs ih=>
  cases n with
  |zero=>simp[Enc.all_nil]
  |succ n=>
   rw[Vq,Enc.all_cons,Enc.all_cons,ih,List.take_append,e.len];rw[show(n+1)*e.sz-e.sz=n*e.sz from bt];rw[Xr (l:=e.f x) (by rw[e.len,Vy];omega)]
theorem Enc.all_drop (e:Enc α) (xs:List α) (n:Nat):e.all (xs.drop n)=(e.all xs).drop (n*e.sz):=by
 induction xs generalizing n with
 |nil=>simp[Enc.all_nil]
 |cons x xs ih=>
  cases n with
  |zero=>simp
  |succ n=>
   rw[U9,Enc.all_cons,ih,List.drop_append,e.len];rw[show(n+1)*e.sz-e.sz=n*e.sz from bt];rw[Vn (l:=e.f x) (by rw[e.len,Vy];omega)];simp
theorem Enc.all_get (e:Enc α) (xs:List α) (i j:Nat) (x:α) (hx:xs[i]? =some x) (hj:j<e.sz):(e.all xs)[i*e.sz+j]? =(e.f x)[j]? :=by
 induction xs generalizing i with
 |nil=>simp at hx
 |cons y ys ih=>
  rw[Enc.all_cons];cases i with
  |zero=>
   simp at hx;subst hx;rw[Yv bN];simp
  |succ i=>
   simp at hx;rw[Yu (by rw[e.len,Vy];omega),e.len,←ih i hx];congr 1;rw[Vy];omega
structure SV where
 a:Option Addr
 n:Nat
 c:Nat
def SV.val (s:SV):Value:=.slice s.a s.n s.c
instance {s:SV}:uF s.val:=⟨rfl⟩
def SV.nil:SV:=⟨none,0,0⟩
def eB:Enc Nat:=⟨λn=>[.int .u8 (n:Int)],1,false,λ_=>rfl,λ_ v h=>bI,ae,λ_=>rfl,ae⟩
def eI:Enc Int:=⟨λn=>[.int .i64 n],1,false,λ_=>rfl,λ_ v h=>bI,ae,λ_=>rfl,ae⟩
def eS:Enc ByteArray:=⟨λs=>[.string s],1,false,λ_=>rfl,λ_ v h=>bI,ae,λ_=>rfl,ae⟩
def eSV:Enc SV:=⟨λs=>[s.val],1,false,λ_=>rfl,λ_ v h=>bI,ae,λ_=>rfl,ae⟩
def SlL {α:Type}(s:SV) (e:Enc α) (xs:List α) (L:pw):Prop:=
 s.n=xs.length∧s.n≤s.c∧((xs= []∧s.c=0)∨∃b off C E fz,s.a=some ⟨b,off,none⟩∧(b,Obj.cells C E fz)∈L∧off+s.c*e.sz≤C.size∧∀j v,(e.all xs)[j]? =some v→C[off+j]? =some v)
class Sl (H:dD) (s:SV) {α:outParam Type}(e:outParam (Enc α)) (xs:outParam (List α)):Prop where
 out:∀L,Sep H L→SlL s e xs L
theorem SlL.mono {s:SV}{e:Enc α}{L c:pw}(h:SlL s e xs L) (hs:∀x∈L,x∈c):SlL s e xs c:=by
 obtain⟨h1,h2,h3⟩:=h;refine⟨h1,h2,h3.imp id ?_⟩;rintro⟨b,a,C,E,fz,h4,h5,h6⟩;exact⟨b,a,C,E,fz,h4,hs _ h5,h6⟩
instance Sl.tail {A:Hp}{H:dD}{s:SV}{α:Type}{e:Enc α}{xs:List α} [h:Sl H s e xs]:Sl (A::H) s e xs:=
 ⟨λL hL=>by obtain⟨L1,L2,rfl,_,h2⟩:=hL;exact(h.out _ h2).mono λx hx=>Yx _ hx⟩
def Okf (n:Nat) (fz:Nat×Nat):Prop:=fz.1=fz.2∨n≤fz.1
theorem Okf.free {n:Nat}{fz:Nat×Nat}(h:Okf n fz) (j:Nat) (hj:j<n):¬(fz.1≤j∧j<fz.2):=by
 rcases h with h|h <;> omega
def Row {α:Type}(s:SV) (e:Enc α) (xs:List α):Hp:=λL=>
 (s=SV.nil∧xs= []∧L= [])∨∃(b:Nat) (C:Array Value) (E:TypeId) (fz:Nat×Nat),s.a=some ⟨b,0,none⟩∧s.n=xs.length∧s.n≤s.c∧L= [(b,.cells C E fz)]∧C.size=s.c*e.sz∧Okf C.size fz∧∀(j:Nat) (v:Value),(e.all xs)[j]? =some v→C[j]? =some v
theorem Row.slL {s:SV}{e:Enc α}{L:pw}(h:Row s e xs L):SlL s e xs L:=by
 rcases h with⟨rfl,rfl,rfl⟩|⟨b,C,E,fz,h1,h2,h3,rfl,h5,_,a⟩
 ·exact⟨rfl,Xl _,.inl ⟨rfl,rfl⟩⟩
 ·exact⟨h2,h3,.inr ⟨b,0,C,E,fz,h1,aq,a8,λj v hv=>by rw[Vw];exact a j v hv⟩⟩
instance Sl.row {H:dD}{s:SV}{α:Type}{e:Enc α}{xs:List α}:Sl (Row s e xs::H) s e xs:=
 ⟨λL hL=>by
  obtain⟨L1,L2,rfl,h1,h2⟩:=hL
  exact h1.slL.mono λx hx=>Yy _ hx⟩
class nM (H:dD) (s:SV) {α:outParam Type}(e:outParam (Enc α)) (xs:outParam (List α)) (C:outParam (Hp→dD)):Prop where
 foc:∀L,Sep H L→∃L1 M L2,L=L1++(M++L2)∧Row s e xs M∧∀(B:Hp) M',B M'→Sep (C B) (L1++(M'++L2))
instance nM.tail {A:Hp}{H:dD}{s:SV}{α:Type}{e:Enc α}{xs:List α}{C:Hp→dD} [h:nM H s e xs C]:nM (A::H) s e xs (λB=>A::C B):=
 ⟨λL hL=>by
  obtain⟨N1,N2,rfl,hA,h2⟩:=hL
  obtain⟨L1,M,L2,rfl,hM,hB⟩:=h.foc _ h2
  exact⟨N1++L1,M,L2,aq,hM,λB M' hm=>⟨N1,L1++(M'++L2),aq,hA,hB B M' hm⟩⟩⟩
instance nM.head {H:dD}{s:SV}{α:Type}{e:Enc α}{xs:List α}:nM (Row s e xs::H) s e xs (λB=>B::H):=
 ⟨λL hL=>by
  obtain⟨L1,L2,rfl,h1,h2⟩:=hL
  exact⟨[],L1,L2,rfl,h1,λB M' hm=>⟨M',L2,rfl,hm,h2⟩⟩⟩
theorem Sl.get {G:dJ}{w:World}{H:dD}{s:SV}{e:Enc α}(h:Sl H s e xs) (hs:Sat G w H):
 s.n=xs.length∧s.n≤s.c∧((xs= []∧s.c=0)∨∃b a C E fz,s.a=some ⟨b,a,none⟩∧w.heap[b]? =some (.cells C E fz)∧a+s.c*e.sz≤C.size∧∀j v,(e.all xs)[j]? =some v→C[a+j]? =some v):=by
 obtain⟨_,L,hL,hl⟩:=hs;obtain⟨h1,h2,h3⟩:=h.out L hL;refine⟨h1,h2,h3.imp id ?_⟩;rintro⟨b,a,C,E,fz,h4,h5,h6⟩;exact⟨b,a,C,E,fz,h4,hl.at_ _ h5,h6⟩
def SV.elt (s:SV) (sz i off:Nat):Option Addr:=s.a.map λa=>⟨a.block,a.off+(i*sz+off),none⟩
def SV.cut (s:SV) (sz lo hi:Nat):SV:=⟨if s.c=lo then s.a else s.a.map (·.add (lo*sz)),hi-lo,s.c-lo⟩
theorem Sl.cut {H:dD}{s:SV}{e:Enc α}(h:Sl H s e xs){lo hi:Nat}(h1:lo≤hi) (h2:hi≤xs.length):Sl H (s.cut e.sz lo hi) e ((xs.take hi).drop lo):=by
 refine⟨λL hL=>?_⟩;obtain⟨q1,q2,i⟩:=h.out L hL;refine⟨by simp[SV.cut];omega,by simp only[SV.cut];omega,?_⟩;rcases i with⟨rfl,c⟩|⟨b,a,C,E,fz,f,d,c,g⟩
 ·left;simp at h2;subst h2;obtain rfl:lo=0:=a8;exact⟨aq,by simp[SV.cut,c]⟩
 ·right
  by_cases hc:s.c=lo
  ·refine⟨b,a,C,E,fz,by simp[SV.cut,hc,f],d,by simp only[SV.cut,hc];simp;omega,λj v hv=>?_⟩;have:(xs.take hi).drop lo= []:=by
    apply Vn;simp;omega
   rw[this]at hv;simp[Enc.all_nil]at hv
  ·refine⟨b,a+lo*e.sz,C,E,fz,by simp[SV.cut,hc,f,jT],d,?_,λj v hv=>?_⟩
   ·simp only[SV.cut];rw[Nat.sub_mul];have:lo*e.sz≤s.c*e.sz:=Vu _ a8;omega
   ·rw[Enc.all_drop,Enc.all_take,Xh]at hv;rw[V0];refine g _ v ?_
    by_cases hk:lo*e.sz+j<hi*e.sz
    ·rwa [Vp hk]at hv
    ·rw[List.getElem?_take_eq_none a8]at hv;cases hv
section
variable {G:dJ}{P:Program}{N:Nat}{Q:Post}{t:Tm}{H:dD}{dst:Option Tmp}{ty:TypeId}{pos:String}{after:Array Edge}{g:Option (Nat×Bool)}
theorem ef {d:TypeDesc} [h:Und P T d] (w:World):(underlying T).run P w=.ok d w:=by simp[underlying,h.out]
theorem UC {s:SV}{e:Enc α}(hx:evo t x=some s.val) (ha:ats[0]? =some T) [hT:Und P T (.slice E)] [hs:Sl H s e xs]:
 Ev G P ⟨dst,.call ⟨.builtin .len, #[x],ats⟩,ty,pos,after,g⟩ t H (.int .i64 ((xs.length:Nat):Int)):=
 fun ρ hρ w hw=>by
  obtain⟨h1,_⟩:=hs.get hw;simp[execOp,resolve,invoke,builtin,Builtin.len_,hρ _ _ hx,ha,ef (T:=T),SV.val,goInt,h1]
theorem Fs {s:ByteArray}(hx:evo t x=some (.string s)) (ha:ats[0]? =some T) [hT:Und P T .string]:
 Ev G P ⟨dst,.call ⟨.builtin .len, #[x],ats⟩,ty,pos,after,g⟩ t H (.int .i64 ((s.size:Nat):Int)):=
 fun ρ hρ w _=>by
  simp[execOp,resolve,invoke,builtin,Builtin.len_,hρ _ _ hx,ha,ef (T:=T),goInt]
theorem er {c:Operand}{s:SV}{e:Enc α}{a:Nat}{k:IntKind}{j:Int}(hx:evo t x=some s.val) (hi:evo t c=some (.int k j)) [hT:Und P T (.slice E)] [hE:Inf P E a bb z] [hs:Sl H s e xs] (i:Nat) (hj:j=i) (hlt:i<xs.length):
 Ev G P ⟨dst,.indexAddr T x c,ty,pos,after,g⟩ t H (.pointer (s.elt a i 0)):=
 fun ρ hρ w hw=>by
  obtain⟨h1,_,h3⟩:=hs.get hw;rcases h3 with⟨rfl,_⟩|⟨b,off,C,E',fz,h4,_⟩
  ·simp at hlt
  ·have h5:¬(s.n≤i):=by omega
   simp[execOp,hρ _ _ hx,hρ _ _ hi,Instr.indexAt,asIntOf,hj,ef (T:=T),SV.val,h4,h5,fy (T:=E) (s:=a),jT,SV.elt]
theorem vu {s:SV}{k a o off o':Nat}(hx:evo t x=some (.pointer (s.elt a i o))){e:Enc α} [hs:Sl H s e xs] (hlt:i<xs.length) [hf:Fld P T k off] [ha:BE o off o']:
 Ev G P ⟨dst,.fieldAddr T x k,ty,pos,after,g⟩ t H (.pointer (s.elt a i o')):=
 fun ρ hρ w hw=>by
  rw[←ha.out];obtain⟨h1,_,h3⟩:=hs.get hw;rcases h3 with⟨rfl,_⟩|⟨b,of',C,E',fz,h4,_⟩
  ·simp at hlt
  ·obtain⟨fs,f,i',l,j,h,d,c⟩:=hf.out;have hx':=hρ _ _ hx;simp only[SV.elt,h4,Vs]at hx';simp[execOp,hx',Instr.fieldAt,underlying,l,j,Instr.sureAddr,fieldPlace,sizeOf,typeInfo,d,c,h,jT,SV.elt,h4,V0]
theorem w2 {s:SV}{o:Nat}{v:Value}{e:Enc α}(hx:evo t x=some (.pointer (s.elt e.sz i o))) [hT:One P T] [hs:Sl H s e xs] (y:α) (hy:xs[i]? =some y) (hc:(e.f y)[o]? =some v):
 Ev G P ⟨dst,.load T x,ty,pos,after,g⟩ t H v:=
 fun ρ hρ w hw=>by
  obtain⟨h1,_,h3⟩:=hs.get hw;rcases h3 with⟨rfl,_⟩|⟨b,a,C,E',fz,h4,d,_,h6⟩
  ·simp at hy
  ·have hx':=hρ _ _ hx;simp only[SV.elt,h4,Vs]at hx';have c:o<e.sz:=by rw[←e.len y];exact(Yk.1 hc).1
   have h8:w.cell? ⟨b,a+(i*e.sz+o),none⟩=some v:=by
    rw[qh d];exact h6 _ v (by rw[e.all_get xs i o y hy c];exact hc)
   simp[execOp,hx',Instr.loadAt,Instr.sureAddr,loadVar,iZ,h8]
theorem yP {s:SV}{e:Enc α}(hx:evo t x=some (.pointer (s.elt e.sz i 0))) (ha:e.agg=false) [hT:One P T] [hs:Sl H s e xs] (y:α) (hy:xs[i]? =some y):
 Ev G P ⟨dst,.load T x,ty,pos,after,g⟩ t H (e.v y):=
 w2 hx y hy (by rw[e.v_one y ha];rfl)
theorem yg {s:SV}{e:Enc α}(hx:evo t x=some (.pointer (s.elt e.sz i 0))) (ha:e.agg=true) [hT:Agg P T e.sz] [hs:Sl H s e xs] (y:α) (hy:xs[i]? =some y):
 Ev G P ⟨dst,.load T x,ty,pos,after,g⟩ t H (e.v y):=
 fun ρ hρ w hw=>by
  obtain⟨h1,_,h3⟩:=hs.get hw;rcases h3 with⟨rfl,_⟩|⟨b,a,C,E',fz,h4,d,_,h6⟩
  ·simp at hy
  ·have hx':=hρ _ _ hx;simp only[SV.elt,h4,Vs]at hx';have h8:=fT (P:=P) (o:=a+(i*e.sz+0)) d (e.f y) (λj v hv=>by
    have c:j<e.sz:=by rw[←e.len y];exact(Yk.1 hv).1
    rw[V0,X6];exact h6 _ v (by rw[e.all_get xs i j y hy c];exact hv))
   rw[e.len]at h8;rw[e.v_agg y ha];simp only[execOp,hx',Instr.loadAt,Instr.sureAddr,loadVar,Sem.run_bind,Sem.run_pure,Result.andThen_ok,uQ (n:=e.sz),na (n:=e.sz),h8,↓reduceIte]
theorem D7 {lo hi:Option Operand}{s:SV}{e:Enc α}(hx:evo t x=some s.val) [hT:Und P T (.slice E)] [hE:Inf P E e.sz bb z] [hs:Sl H s e xs] (l h:Nat) (b:match lo with|none=>l=0|some o=>∃k j,evo t o=some (.int k j)∧j=(l:Int)) (a:match hi with|none=>h=xs.length|some o=>∃k j,evo t o=some (.int k j)∧j=(h:Int)) (h1:l≤h) (h2:h≤xs.length):
 Ev G P ⟨dst,.slice T x lo hi none,ty,pos,after,g⟩ t H (s.cut e.sz l h).val:=
 fun ρ hρ w hw=>by
  obtain⟨d,q2,_⟩:=hs.get hw;have m:(Instr.sliceBounds true s.n s.c (lo.map ρ) (hi.map ρ) none).run P w=.ok (l,h,s.c) w:=by
   have c:∀(j:Nat) (k:IntKind) (y:Nat) (i:BoundsCode),j≤y→(Instr.sliceBound (.int k (j:Int)) y i).run P w=.ok j w:=by
    intro j k y i hj;have:(j:Int)≤(y:Int):=a8;simp[Instr.sliceBound,asIntOf,this]
   cases lo with
   |none=>
    simp only at b;subst b;cases hi with
    |none=>simp only at a;subst a;simp[Instr.sliceBounds,d]
    |some o=>
     obtain⟨k,j,h3,h4⟩:=a;subst h4;simp[Instr.sliceBounds,hρ _ _ h3,c h k s.c _ a8]
   |some o'=>
    obtain⟨f,j',h5,h6⟩:=b;subst h6;cases hi with
    |none=>simp only at a;subst a;simp[Instr.sliceBounds,hρ _ _ h5,c l f xs.length _ a8,d]
    |some o=>
     obtain⟨k,j,h3,h4⟩:=a;subst h4;simp[Instr.sliceBounds,hρ _ _ h3,hρ _ _ h5,c h k s.c _ a8,c l f h _ a8]
  simp only[execOp,hρ _ _ hx,Instr.sliceAt,SV.val,Option.map_none,Sem.run_bind,ef (T:=T),Result.andThen_ok];simp only[Instr.slice,Sem.run_bind,ef (T:=T),Result.andThen_ok,m,fy (T:=E) (s:=e.sz),Sem.run_pure];rfl
end
end
section
variable {C:Hp→dD}{E T:TypeId}{bb:Nat}{α:Type}{e:Enc α}{s:SV}{w:World}{xs ys:List α}{z:Value}
theorem mu {P:Program}(a:Nat) (s:SV) (w:World):(Builtin.firstCells a 0 s.val).run P w=.ok #[] w:=by
 cases h:s.a <;> simp[Builtin.firstCells,SV.val,h,loadCells,loadCellsFrom]
def wc (t:Tm):List (Nat×Operand)→Option (List (Nat×Value))
 | []=>some []
 |(i,x)::xs=>match evo t x,wc t xs with
  |some v,some vs=>some ((i,v)::vs)
  |_,_=>none
theorem uh {t:Tm}{ρ:Operand→Value}(hρ:E6 t ρ):∀{xs:List (Nat×Operand)}{vs:List (Nat×Value)},wc t xs=some vs→xs.map (fun(i,x)=>(i,ρ x))=vs
 | [],_,h=>by cases h;rfl
 |(i,x)::xs,vs,h=>by
  simp only[wc]at h
  split at h
  ·rename_i v us h1 h2;cases h;rw[Xs,uh hρ h2];simp only[hρ x v h1]
  ·cases h
def Enc.parts {α:Type}(e:Enc α):Nat→List α→List (Nat×Value)
 |_, []=>[]
 |k,x::xs=>(k,e.v x)::e.parts (k+1) xs
theorem zG (cs:List Value):∀(C:Array Value) (o k:Nat),(cs.zipIdx k).foldl (λcs (x:Value×Nat)=>cs.setIfInBounds (o+x.2) x.1) C=gL C (o+k) cs:=by
 induction cs with
 |nil=>intro C o k;rfl
 |cons c cs ih=>intro C o k;simp only[List.zipIdx_cons,List.foldl_cons,gL];rw[ih];rfl
theorem Fm (e:Enc α):∀(xs:List α) (k:Nat) (C:Array Value),(k+xs.length)*e.sz≤C.size→Instr.fill (λi=>some (i*e.sz,e.sz)) C (e.parts k xs)=some (gL C (k*e.sz) (e.all xs)):=by
 intro xs
 induction xs with
 |nil=>intro k C _;rfl
 |cons x xs ih=>
  intro k C h;simp only[Yb]at h;have h2:k*e.sz+e.sz≤C.size:=by
   refine Xi ?_ h;rw[show k*e.sz+e.sz=(k+1)*e.sz from bt];exact Vu _ a8
  have h3:∀o,((e.f x).toArray.zipIdx.foldl (λcs (y:Value×Nat)=>cs.setIfInBounds (o+y.2) y.1) C)=gL C o (e.f x):=by
   intro o;rw[←Array.foldl_toList];have:=zG (e.f x) C o 0
   simpa using this
  simp only[Enc.parts,Instr.fill,e.v_cells];rw[if_neg (by simp[e.len];exact h2)];have h4:=ih (k+1) (gL C (k*e.sz) (e.f x)) (by rw[iA];exact Xi (Vu _ a8) h);have h5:=h3 (k*e.sz);rw[h5,h4,Enc.all_cons];congr 1;apply Q5;intro j;have hsz:(k+(xs.length+1))*e.sz=k*e.sz+e.sz+xs.length*e.sz:=by
   rw[Vy,Vy];omega
  have a:(k+1)*e.sz=k*e.sz+e.sz:=bt;rw[jc _ _ _ _ (by rw[iA,Enc.all_length,a];omega),jc _ _ _ _ bN,jc _ _ _ _ (by rw[Ya,e.len,Enc.all_length];omega)];simp only[Ya,e.len,Enc.all_length,a]
  by_cases c1:k*e.sz+e.sz≤j∧j<k*e.sz+e.sz+xs.length*e.sz
  ·rw[if_pos c1,if_pos a8,Yu bN,e.len];congr 1;omega
  ·rw[if_neg c1]
   by_cases c2:k*e.sz≤j∧j<k*e.sz+e.sz
   ·rw[if_pos c2,if_pos a8,Yv bN]
   ·rw[if_neg c2,if_neg a8]
section
variable {G:dJ}{P:Program}{N:Nat}{Q:Post}{t:Tm}{H:dD}{dst:Option Tmp}{ty:TypeId}{pos:String}{after:Array Edge}{g:Option (Nat×Bool)}
theorem Sat.newRow (a:Sat G w H) (e:Enc α) (xs:List α) (C:Array Value) (E:TypeId) (n c:Nat) (hn:n=xs.length) (hc:n≤c) (hs:C.size=c*e.sz) (d:∀(j:Nat) (v:Value),(e.all xs)[j]? =some v→C[j]? =some v):
 Sat G {w with heap:=w.heap.push (.cells C E)} (Row ⟨some ⟨w.heap.size,0,none⟩,n,c⟩ e xs::H):=
 (a.alloc _).cons λ_ b=>.inr ⟨w.heap.size,C,E,(0,0),rfl,hn,hc,b,hs,.inl rfl,d⟩
theorem ek {n:Nat}{ps:List (Nat×Operand)}(e:Enc α) (xs:List α) [hT:Und P T (.slice E)] [hE:Inf P E e.sz bb z] (hp:wc t ps=some (e.parts 0 xs)) (hn:n=xs.length) (hb:n*e.sz≤16777216):
 St G P ⟨dst,.buildSlice T n ps.toArray,ty,pos,after,g⟩ t H (λu h=>∃s:SV,u=s.val∧h=Row s e xs::H):=
 fun ρ hρ w hw=>by
  subst hn;have h2:(ps.toArray.map fun(i,x)=>(i,ρ x)).toList=e.parts 0 xs:=by simp[uh hρ hp]
  have hr:∃C:Array Value,C.size=xs.length*e.sz∧(∀(j:Nat) (v:Value),(e.all xs)[j]? =some v→C[j]? =some v)∧(execOp ρ ⟨dst,.buildSlice T xs.length ps.toArray,ty,pos,after,g⟩).run P w=.ok (.value (.slice (some ⟨w.heap.size,0,none⟩) xs.length xs.length)) {w with heap:=w.heap.push (.cells C E)}:=by
   have a:¬(xs.length*e.sz > 2^24):=a8;obtain⟨Z,b⟩:∃Z,(if xs.length*e.sz=0 then #[]else z.cells:Array Value)=Z:=⟨_,rfl⟩;have f:=Fm e xs 0 ((Array.range (xs.length*e.sz)).map (Z[· % Z.size]!)) aq;refine⟨gL ((Array.range (xs.length*e.sz)).map (Z[· % Z.size]!)) (0*e.sz) (e.all xs),?_,?_,?_⟩
   ·rw[iA];simp
   ·intro j v hv;have hj:j<xs.length*e.sz:=by rw[←e.all_length];exact(Yk.1 hv).1
    rw[jc _ _ _ _ (by simp[Enc.all_length])];rw[if_pos (by rw[e.all_length];omega)]
    simpa using hv
   ·have hm:(ps.toArray.map fun(i,x)=>(i,ρ x)).toList=e.parts 0 xs:=h2;simp only[execOp,Instr.buildSlice,Sem.run_bind,ef (T:=T),Result.andThen_ok,fy (T:=E) (s:=e.sz),a,↓reduceIte,hm]
    by_cases h0:xs.length*e.sz=0
    ·rw[if_pos h0]at b⊢;subst b;simp only[Sem.run_bind,Sem.run_pure,Result.andThen_ok];rw[f];rfl
    ·rw[if_neg h0]at b⊢;subst b;simp only[Sem.run_bind,Sem.run_pure,Result.andThen_ok,mb (T:=E)];rw[f];rfl
  obtain⟨C,d,c,hr⟩:=hr;rw[hr];exact⟨_,hw.newRow e xs C E _ _ rfl (Xl _) d c,⟨some ⟨w.heap.size,0,none⟩,xs.length,xs.length⟩,rfl,rfl⟩
theorem Sat.nilRow (a:Sat G w H) (e:Enc α):Sat G w (Row SV.nil e []::H):=by
 obtain⟨b,L,hL,hl⟩:=a;exact⟨b,L,⟨[],L,rfl,.inl ⟨rfl,rfl,rfl⟩,hL⟩,hl⟩
theorem nM.split (h:nM H s e xs C) (a:Sat G w H):
 ∃L1 M L2,lB w (L1++(M++L2))∧Row s e xs M∧∀(B:Hp) M',B M'→Sep (C B) (L1++(M'++L2)):=by
 obtain⟨_,L,hL,hl⟩:=a;obtain⟨L1,M,L2,rfl,b,c⟩:=h.foc _ hL;exact⟨L1,M,L2,hl,b,c⟩
theorem lB.push {L1 M L2:pw}(h:lB w (L1++(M++L2))) (o:Obj):lB {w with heap:=w.heap.push o} (L1++([(w.heap.size,o)]++L2)):=by
 have a:(L1++L2).Sublist (L1++(M++L2)):=(List.Sublist.refl L1).append (List.sublist_append_right M L2);have hn:((L1++L2).map (·.1)).Nodup:=(a.map _).nodup h.nodup;have c:∀x∈L1++L2,x.1<w.heap.size:=λx hx=>h.lt (a.subset hx);have b:(L1++([(w.heap.size,o)]++L2)).Perm ((w.heap.size,o)::(L1++L2)):=by
  simp
 refine⟨?_,?_⟩
 ·rw[(b.map _).nodup_iff,Xs,U1];refine⟨λhm=>?_,hn⟩;obtain⟨x,hx,he⟩:=Xt.1 hm;have:=c x hx;simp only at he;omega
 ·intro x hx;rcases Xo.1 (b.mem_iff.1 hx)with rfl|hx
  ·simp
  ·have h1:=c x hx;simp only[Array.getElem?_push];rw[if_neg a8];exact h.at_ x (a.subset hx)
def E5 (P:Program) (sz:Nat) (v:Value) (m:Nat) (cs:List Value) (w:World):Prop:=
 (Builtin.lenOf v).run P w=.ok m w∧∀d,(Builtin.firstCells sz m v).run P {w with drawn:=d}=.ok cs.toArray {w with drawn:=d}
theorem pJ {T2:TypeId}{d2:TypeDesc}{v:Value}{m J:Nat}{cs:List Value} [hT:Und P T (.slice E)] [hT2:Und P T2 d2] [hE:Inf P E J bb z] (Y:d2=.string∨∃e2,d2=.slice e2) (N:J=e.sz) (L:z.cells.size=J) [hf:nM H s e xs C] (l:Sat G w H) (hg:E5 P J v m cs w) (Z:cs=e.all ys) (hm:m=ys.length) (hlim:(xs.length+ys.length)*bb≤140737488355328) (hlim2:xs.length+ys.length≤140737488355328):
 ∃(s':SV) (w':World),(Builtin.append_ #[T,T2] ty #[s.val,v]).run P w=.ok s'.val w'∧Sat G w' (C (Row s' e (xs++ys))):=by
 subst N Z hm;obtain⟨hg1,hg2⟩:=hg;have p:=hg2 w.drawn;obtain⟨L1,M,L2,hl,hM,hB⟩:=hf.split l;obtain⟨i,U,hi2,t,hi4⟩:=hE.out;have B:=e.all_one ys;have A:s.n=xs.length∧s.n≤s.c:=by
  rcases hM with⟨rfl,rfl,_⟩|⟨b,a,c,fz,_,h2,h3,_⟩
  ·exact⟨rfl,Xl _⟩
  ·exact⟨h2,h3⟩
 rcases Y with rfl|⟨e2,rfl⟩
 all_goals
  by_cases hroom:s.n+ys.length≤s.c
  ·
   rcases hM with⟨rfl,rfl,rfl⟩|⟨b,a,c,fz,h1,h2,h3,rfl,h5,h6,h7⟩
   ·obtain rfl:ys= []:=by
     simp[SV.nil]at hroom;exact hroom
    refine⟨SV.nil,w,?_,l.1,_,hB _ [] (.inl ⟨rfl,rfl,rfl⟩),bQ⟩;simp only[Builtin.append_,SV.nil,SV.val];simp only[Sem.run_bind,Sem.run_pure,Result.andThen_ok,ef (T:=T),fy (T:=E) (s:=e.sz),Uw,Xb,Xc,ef (T:=T2),hg1,Xx,↓reduceIte,T7,X6,Yc,Xl];have:=p;simp only[Yc]at this;rw[this];rfl
   ·have k:w.heap[b]? =some (.cells a c fz):=hl.at_ (b,.cells a c fz) aq;have F:s.n*e.sz+(e.all ys).length≤a.size:=by
     rw[e.all_length,h5,←Vy];exact Vu _ hroom
    have x:=iy (P:=P) (o:=s.n*e.sz) (e.all ys) 0 a w k (λj _ h=>h6.free j a8) a8 B;refine⟨⟨some ⟨b,0,none⟩,s.n+ys.length,s.c⟩,fW w b (.cells (gL a (s.n*e.sz) (e.all ys)) c fz),?_,⟨l.1.os,l.1.tape,l.1.output⟩,_,hB _ [(b,.cells (gL a (s.n*e.sz) (e.all ys)) c fz)] (.inr ⟨b,_,c,fz,rfl,by simp[h2],hroom,rfl,by rw[iA,h5],by rw[iA];exact h6,?_⟩),?_⟩
    ·simp only[Builtin.append_,SV.val,h1];simp only[Sem.run_bind,Sem.run_pure,Result.andThen_ok,ef (T:=T),fy (T:=E) (s:=e.sz),Uw,Xb,Xc,ef (T:=T2),hg1,Xx,↓reduceIte,T7,hroom];rw[p];simp only[Result.andThen_ok,jT,Vw];simp only[X6]at x;rw[x];rfl
    ·intro j u g;rw[jc _ _ _ _ F];rw[e.all_append]at g;have S:(e.all xs).length=s.n*e.sz:=by rw[e.all_length,h2]
     by_cases hj:j<s.n*e.sz
     ·rw[if_neg a8];rw[Yv a8]at g;exact h7 j u g
     ·rw[Yu a8,S]at g;rw[if_pos ⟨a8,by have:=(Yk.1 g).1;omega⟩];exact g
    ·have:=lB.change (w':=fW w b (.cells (gL a (s.n*e.sz) (e.all ys)) c fz)) (L1:=L1) (L2:=L2) (b:=b) (o:=.cells a c fz) (o':=.cells (gL a (s.n*e.sz) (e.all ys)) c fz) bQ (iY k) (λi hi _=>gY hi)
     simpa using this
  ·
   have V:s.c<s.n+ys.length:=a8;have n:¬((s.n+ys.length:Nat):Int) > IntKind.i64.max:=by
    simp only[IntKind.max,IntKind.signed,IntKind.bits];simp;omega
   have a0:¬(Builtin.nextslicecap (s.n+ys.length) s.c*bb > 2^48):=by
    have:=growslice_fits (bytes:=bb) V (by rw[A.1];exact hlim);omega
   have r:∀d,(Builtin.firstCells e.sz s.n s.val).run P {w with drawn:=d}=.ok (e.all xs).toArray {w with drawn:=d}:=by
    intro d;rcases hM with⟨rfl,rfl,rfl⟩|⟨b,a,c,fz,h1,h2,h3,rfl,h5,h6,h7⟩
    ·rfl
    ·have k:({w with drawn:=d}:World).heap[b]? =some (.cells a c fz):=hl.at_ (b,.cells a c fz) aq;have:=fT (P:=P) (o:=0) k (e.all xs) (λj v hv=>by rw[Vw];exact h7 j v hv);rw[e.all_length,←h2]at this;simp only[Builtin.firstCells,SV.val,h1,this]
   let q:Question:=.appendCap (s.n+ys.length) s.c E
   let nc:Nat:=q.cut (w.tape w.drawn q)
   have R:s.n+ys.length≤nc:=by
    show s.n+ys.length≤(s.n+ys.length)+_;omega
   have K:(Builtin.zeroCells z.cells (nc-(s.n+ys.length))).size=(nc-(s.n+ys.length))*e.sz:=by
    simp[Builtin.zeroCells,L]
   refine⟨⟨some ⟨w.heap.size,0,none⟩,s.n+ys.length,nc⟩,{w with drawn:=w.drawn+1,heap:=w.heap.push (.cells ((e.all xs).toArray++(e.all ys).toArray++Builtin.zeroCells z.cells (nc-(s.n+ys.length))) E)},?_,⟨l.1.os,l.1.tape,l.1.output⟩,_,
    hB _ [(w.heap.size,.cells ((e.all xs).toArray++(e.all ys).toArray++Builtin.zeroCells z.cells (nc-(s.n+ys.length))) E)] (.inr ⟨w.heap.size,_,E,(0,0),rfl,by simp[A.1],R,rfl,?_,.inl rfl,?_⟩),?_⟩
   ·have hq:q.forced=false:=rfl;have f:∀w:World,(typeInfo E).run P w=.ok i w:=by intro w;simp[typeInfo,U]
    have y:=r (w.drawn+1);have X:=hg2 (w.drawn+1);have c1:¬(((s.n+ys.length:Nat):Int) > IntKind.i64.max∧(false=true∨i.bytes=0)):=λh=>n h.1;simp only[Builtin.append_,SV.val]at y⊢;simp only[Sem.run_bind,Sem.run_pure,Result.andThen_ok,ef (T:=T),fy (T:=E) (s:=e.sz),Uw,Xb,Xc,ef (T:=T2),hg1,Xx,↓reduceIte,T7,hroom,f,t];rw[if_neg (by rw[←t];exact λh=>n h.1)];simp only[Sem.run_bind,f,t,Result.andThen_ok];rw[if_neg a0];simp only[Sem.run_bind,Sem.run_pure,run_choose];rw[show(Question.appendCap (s.n+ys.length) s.c E).forced=false from rfl];simp only[Xx,↓reduceIte,Result.andThen_ok,f,run_askRoom,y,X,mb (T:=E)];rfl
   ·rw[Array.size_append,Array.size_append,K];simp only[List.size_toArray,e.all_length,←Vy];congr 1;omega
   ·intro j u g;rw[e.all_append]at g;have hj:=(Yk.1 g).1;rw[Uu (by simp at hj⊢;exact hj)]
    simpa using g
   ·have:=hl.push (.cells ((e.all xs).toArray++(e.all ys).toArray++Builtin.zeroCells z.cells (nc-(s.n+ys.length))) E);exact⟨this.nodup,this.at_⟩
theorem gf {T2 k:TypeId}{x y:Operand}{s2:SV}{c:Nat}(hx:evo t x=some s.val) (hy:evo t y=some s2.val) [hT:Und P T (.slice E)] [hT2:Und P T2 (.slice k)] [hE:Inf P E c bb z] [hf:nM H s e xs C] [hs:Sl H s2 e ys] (j:c=e.sz) (h:z.cells.size=c) (hlim:(xs.length+ys.length)*bb≤140737488355328) (hlim2:xs.length+ys.length≤140737488355328):
 St G P ⟨dst,.call ⟨.builtin .append, #[x,y], #[T,T2]⟩,ty,pos,after,g⟩ t H (λu p=>∃a:SV,u=a.val∧p=C (Row a e (xs++ys))):=
 fun ρ hρ w hw=>by
  subst j;have m:E5 P e.sz s2.val ys.length (e.all ys) w:=by
   obtain⟨h1,_,h3⟩:=hs.get hw;refine⟨by simp[Builtin.lenOf,SV.val,h1],λd=>?_⟩;rcases h3 with⟨rfl,_⟩|⟨b,f,C0,E0,fz,h4,n,_,h6⟩
   ·rw[Yc,mu,Enc.all_nil]
   ·have:=fT (P:=P) (w:={w with drawn:=d}) (o:=f) n (e.all ys) h6;rw[e.all_length]at this;simp only[Builtin.firstCells,SV.val,h4,this]
  obtain⟨a,l,hr,i⟩:=pJ (ty:=ty) (T:=T) (T2:=T2) (d2:=.slice k) (P:=P) (E:=E) (.inr ⟨k,rfl⟩) rfl h (hf:=hf) hw m rfl rfl hlim hlim2;have:(execOp ρ ⟨dst,.call ⟨.builtin .append, #[x,y], #[T,T2]⟩,ty,pos,after,g⟩).run P w=.ok (.value a.val) l:=by
   simp only[execOp,resolve,invoke,builtin,Uy,Xs,Ud,hρ _ _ hx,hρ _ _ hy,Sem.run_bind,Sem.run_pure,Result.andThen_ok,hr]
  rw[this];exact⟨_,i,a,rfl,rfl⟩
end
end
section
variable {K':Act→dD→Prop}{Q':Exit→Act→World→Prop}{R:Value→dD→Prop}{a:Act}{after:Array Edge}{b want:Bool}{d fuel i j:Nat}{dst:Option Tmp}{l:List Oper}{listed:Array Bool}{o oi:Oper}{op:Op}{pos:String}{ty:TypeId}{v:Value}
section
variable (G:dJ) (P:Program) (ops:Array Oper)
def px (o:Oper) (a:Act) (K:Act→dD→Prop):Result Next→Prop
 | .ok (.value v) w'=>∃H',Sat G w' H'∧K (a.put o.dst v) H'
 | .ok .skip w'=>∃H',Sat G w' H'∧K (a.put o.dst undef) H'
 | .ok (.enter f args) w'=>Calls P f args w' λe w''=>match e with
  | .returned v=>∃H',Sat G w'' H'∧K (a.put o.dst v) H'
  |_=>False
 |_=>False
def OpK (i:Nat) (K:Act→dD→Prop) (a:Act) (H:dD):Prop:=
 match ops[i]? with
 |none=>K a H
 |some o=>if Region.wanted o (yielded ops a.tmps)then ∀w,Sat G w H→px G P o a K ((execOp a.eval o).run P w)else K (a.put o.dst undef) H
def vD (loud:Nat→Bool) (i:Nat) (listed:Array Bool):Prop:=
 ∀(j:Nat) (oj:Oper),ops[j]? =some oj→loud j=true→listed.getD j false=true→∀e∈oj.after,Region.binds .any e=true→e.on≠i
def sA (loud:Nat→Bool) (F:Nat→dD→Prop) (K:Act→dD→Prop):Nat→Array Bool→Act→dD→Prop
 | 0,listed,a,H=>(∀i,vD ops loud i listed→F i H)∧Region.ready .any ops listed= []∧K a H
 |fuel+1,listed,a,H=>(∀i,vD ops loud i listed→F i H)∧(Region.ready .any ops listed= []→K a H)∧
  ∀i∈Region.ready .any ops listed,OpK G P ops i (sA loud F K fuel (listed.setIfInBounds i true)) a H
def Na (o:Oper) (a:Act) (H:dD) (v:Value):Prop:=
 ∀w,Sat G w H→match (execOp a.eval o).run P w with
  | .ok (.value u) w'=>u=v∧Sat G w' H
  | .ok .skip w'=>undef=v∧Sat G w' H
  | .ok (.enter f args) w'=>Calls P f args w' λe w''=>match e with
   | .returned u=>u=v∧Sat G w'' H
   |_=>False
  |_=>False
def qj (F:dD→Prop) (o:Oper) (a:Act) (v:Value):Prop:=
 (Region.wanted o (yielded ops a.tmps)=true∧∀H,F H→Na G P o a H v)∨(Region.wanted o (yielded ops a.tmps)=false∧v=undef)
end
section
variable {G:dJ}{P:Program}{ops:Array Oper}{loud:Nat→Bool}{F:Nat→dD→Prop}{K:Act→dD→Prop}
theorem px.mono {K:Act→dD→Prop}(h:∀a H,K a H→K' a H){r:Result Next}(hr:px G P o a K r):px G P o a K' r:=by
 cases r with
 |ok n w'=>
  cases n <;> simp only[px]at hr⊢
  case value v=>obtain⟨b,h1,h2⟩:=hr;exact⟨b,h1,h _ _ h2⟩
  case skip=>obtain⟨b,h1,h2⟩:=hr;exact⟨b,h1,h _ _ h2⟩
  case enter f args=>
   exact hr.mono λe w'' he=>by
    cases e with
    |returned v=>obtain⟨b,h1,h2⟩:=he;exact⟨b,h1,h _ _ h2⟩
    |_=>exact he
 |halt x w'=>simp only[px]at hr
theorem OpK.mono {H:dD}{K:Act→dD→Prop}(h:∀a H,K a H→K' a H) (hh:OpK G P ops i K a H):OpK G P ops i K' a H:=by
 unfold OpK at*
 split
 ·exact h _ _ (by simpa [*] using hh)
 ·rename_i o d;simp only[d]at hh
  split
  ·rename_i b;simp only[b,if_true]at hh;exact λw c=>(hh w c).mono h
  ·rename_i b;simp only[b]at hh;exact h _ _ hh
theorem OpK.wpOp {H:dD}{w:World}{K':Act→World→Prop}(d:Sat G w H) (h:∀a w' c,Sat G w' c→K a c→K' a w') (hh:OpK G P ops i K a H):wpOp P ops Q' i K' a w:=by
 unfold OpK at hh;unfold Go.wpOp
 split
 ·rename_i g;simp only[g]at hh;exact h _ _ _ d hh
 ·rename_i o g;simp only[g]at hh
  split
  ·rename_i b;simp only[b,if_true]at hh;have h3:=hh w d;refine .inl ?_;unfold Oper.wp;generalize (execOp a.eval o).run P w=r at*;cases r with
   |ok n w'=>
    cases n <;> simp only[px]at h3 <;> simp only[Oper.upon]
    case value v=>obtain⟨c,h1,h2⟩:=h3;exact h _ _ _ h1 h2
    case skip=>obtain⟨c,h1,h2⟩:=h3;exact h _ _ _ h1 h2
    case enter f args=>
     exact h3.mono λe w'' he=>by
      cases e with
      |returned v=>obtain⟨c,h1,h2⟩:=he;exact h _ _ _ h1 h2
      |_=>exact he.elim
   |halt x w'=>simp only[px]at h3
  ·rename_i b;simp only[b]at hh;exact h _ _ _ d hh
theorem yJ (c:∀a w H,Sat G w H→K a H→Q' .normal a w):∀(fuel:Nat) (listed:Array Bool) (a:Act) (w:World) (H:dD),Sat G w H→
 sA G P ops loud F K fuel listed a H→wpAny P .any ops Q' fuel listed a w
 | 0,_,_,_,_,hw,h=>⟨h.2.1,c _ _ _ hw h.2.2⟩
 |fuel+1,_,_,_,_,hw,h=>⟨λh0=>c _ _ _ hw (h.2.1 h0),λi hi=>(h.2.2 i hi).wpOp hw (λf d g b e=>yJ c fuel _ f d g b e)⟩
theorem vD.of_set {k:Nat}(hl:loud i=false) (h:vD ops loud k listed):vD ops loud k (listed.setIfInBounds i true):=by
 intro j c hj b a
 by_cases hij:i=j
 ·subst hij;rw[hl]at b;cases b
 ·rw[getD_set_ne false hij]at a;exact h j c hj b a
theorem qj.opK {H:dD}{F:dD→Prop}(hi:ops[i]? =some o) (hy:qj G P ops F o a v) (d:F H) (h:K (a.put o.dst v) H):OpK G P ops i K a H:=by
 unfold Go.Sx.OpK;simp only[hi];rcases hy with⟨b,hv⟩|⟨b,rfl⟩
 ·simp only[b,if_true];intro w c;have h3:=hv H d w c;generalize (execOp a.eval o).run P w=r at*;cases r with
  |ok n w'=>
   cases n <;> simp only at h3
   case value u=>obtain⟨rfl,h4⟩:=h3;exact⟨H,h4,h⟩
   case skip=>obtain⟨rfl,h4⟩:=h3;exact⟨H,h4,h⟩
   case enter f args=>
    exact h3.mono λe w'' he=>by
     cases e with
     |returned u=>obtain⟨rfl,h4⟩:=he;exact⟨H,h4,h⟩
     |_=>exact he
  |halt x w'=>exact h3.elim
 ·simp only[b,Xx,if_false];exact h
theorem OpK.put {oj:Oper}{F:dD→Prop}(hj:ops[j]? =some oj) (hap:oi.apart ops oj=true) (hsi:∀cs b,oi.op≠ .select cs b) (hsj:∀cs b,oj.op≠ .select cs b){K:Act→dD→Prop}{H:dD}(hy:qj G P ops F oi a v) (h:OpK G P ops j K (a.put oi.dst v) H):
 OpK G P ops j (λa' H'=>qj G P ops F oi a' v∧K (a'.put oi.dst v) H') a H:=by
 obtain⟨h1,h2,h3⟩:=Oper.apart_spec hap;have keep:∀(a:Act),qj G P ops F oi a v→∀u,qj G P ops F oi (a.put oj.dst u) v:=λa hy u=>by
  unfold qj Na at*;rw[execOp_put oi hsi a oj.dst u h3,wanted_put oi a oj.dst u h3];exact hy
 unfold OpK at*;simp only[hj]at*;rw[wanted_put oj a oi.dst v h1]at h
 split
 ·rename_i hw;simp only[hw,if_true]at h;intro w hs;have h4:=h w hs;rw[execOp_put oj hsj a oi.dst v h1]at h4;generalize (execOp a.eval oj).run P w=r at*;cases r with
  |ok n w'=>
   cases n <;> simp only[px]at h4⊢
   case value u=>obtain⟨H',q1,q2⟩:=h4;exact⟨H',q1,keep a hy u,by rw[←Act.put_comm a v u h2];exact q2⟩
   case skip=>obtain⟨H',q1,q2⟩:=h4;exact⟨H',q1,keep a hy _,by rw[←Act.put_comm a v undef h2];exact q2⟩
   case enter f args=>
    exact h4.mono λe w'' he=>by
     cases e with
     |returned u=>obtain⟨H',q1,q2⟩:=he;exact⟨H',q1,keep a hy u,by rw[←Act.put_comm a v u h2];exact q2⟩
     |_=>exact he
  |halt x w'=>simp only[px]at h4
 ·rename_i hw;simp only[hw]at h;exact⟨keep a hy _,by rw[←Act.put_comm a v undef h2];exact h⟩
theorem sA.first (hi:ops[i]? =some oi) (hl:loud i=false) (hsel:∀(j:Nat) (o:Oper) cs b,ops[j]? =some o→o.op≠ .select cs b):
 ∀(fuel:Nat) (listed:Array Bool) (a:Act) (H:dD),
  (∀j oj,ops[j]? =some oj→j≠i→listed.getD j true=false→(∀e∈oj.after,Region.binds .any e=true→e.on≠i)→oi.apart ops oj=true)→
  (∀j oj,ops[j]? =some oj→listed.getD j false=true→∀e∈oj.after,Region.binds .any e=true→e.on≠i)→
  i∈Region.ready .any ops listed→qj G P ops (F i) oi a v→
  sA G P ops loud F K fuel (listed.setIfInBounds i true) (a.put oi.dst v) H→sA G P ops loud F K (fuel+1) listed a H:=by
 intro fuel
 induction fuel with
 |zero=>
  intro listed a H _ hw hr hy h;have hF:F i H:=h.1 i (vD.of_set hl λj oj hj _ hlj=>hw j oj hj hlj);refine⟨λk hk=>h.1 k (hk.of_set hl),λh0=>(cw),λj hj=>?_⟩
  by_cases hji:j=i
  ·subst hji;exact hy.opK hi hF h
  ·have:=ready_mono hj hji;rw[h.2.1]at this;cases this
 |succ fuel ih=>
  intro listed a H hfree hw hr hy h;have hF:F i H:=h.1 i (vD.of_set hl λj oj hj _ hlj=>hw j oj hj hlj);refine⟨λk hk=>h.1 k (hk.of_set hl),λh0=>(cw),λj hj=>?_⟩
  by_cases hji:j=i
  ·subst hji;exact hy.opK hi hF h
  ·have h1:=h.2.2 j (ready_mono hj hji);obtain⟨hjun,oj,hoj,hall⟩:=mem_ready.1 hj;have hnot:∀e∈oj.after,Region.binds .any e=true→e.on≠i:=λe he hb heq=>by
    have h1:=hall e he hb;have h0:=(mem_ready.1 hr).1;rw[heq]at h1;rcases Us i listed.size with h'|h'
    ·simp[h']at h0 h1;rw[h0]at h1;cases h1
    ·simp[Array.getElem?_eq_none h']at h1
   have h2:=OpK.put hoj (hfree j oj hoj hji hjun hnot) (λcs b=>hsel i oi cs b hi) (λcs b=>hsel j oj cs b hoj) hy h1;have hfree':∀k ok,ops[k]? =some ok→k≠i→(listed.setIfInBounds j true).getD k true=false→
    (∀e∈ok.after,Region.binds .any e=true→e.on≠i)→oi.apart ops ok=true:=λk ok hk hki hun hno=>by
    refine hfree k ok hk hki ?_ hno
    by_cases hjk:j=k
    ·subst hjk;exact hjun
    ·rw[getD_set_ne true hjk]at hun;exact hun
   have hw':∀k ok,ops[k]? =some ok→(listed.setIfInBounds j true).getD k false=true→∀e∈ok.after,Region.binds .any e=true→e.on≠i:=λk ok hk hlk=>by
    by_cases hjk:j=k
    ·subst hjk;obtain rfl:ok=oj:=Xk (hk.symm.trans hoj);exact hnot
    ·rw[getD_set_ne false hjk]at hlk;exact hw k ok hk hlk
   refine OpK.mono (λa' H' h3=>ih (listed.setIfInBounds j true) a' H' hfree' hw' (ready_mono hr (Ne.symm hji)) h3.1 ?_) h2;rw[Array.setIfInBounds_comm _ _ hji];exact h3.2
structure An (G:dJ) (P:Program) (N:Nat) (ops:Array Oper) (loud:Nat→Bool) (F:Nat→dD→Prop) (Q:Post) (fuel:Nat) (listed:Array Bool) (t:Tm) (H:dD):Prop where
 go:∀a,Fr N t a→sA G P ops loud F (λa H=>∃t,Fr N t a∧Q .normal t H) fuel listed a H
def Hj (ops:Array Oper) (listed:Array Bool) (i:Nat):Bool:=
 (List.range ops.size).all λj=>!listed.getD j false ||match ops[j]? with
   |some oj=>oj.after.all λe=>!(Region.binds .any e&&e.on==i)
   |none=>true
theorem Bs (h:Hj ops listed i=true):∀j a,ops[j]? =some a→listed.getD j false=true→∀e∈a.after,Region.binds .any e=true→e.on≠i:=by
 intro j a hj hl e he d c;have b:j<ops.size:=(Vc.1 hj).1;have h1:=X5.1 h j (List.mem_range.2 b);simp only[hl,T6,Q8,hj]at h1;have h2:=Array.all_eq_true'.1 h1 e he;simp[d,c]at h2
variable {N:Nat}{Q:Post}{t:Tm}{H:dD}
theorem Rs {c:Nat}(hm:P.follows .mixedOrders=true) (loud:Nat→Bool) (F:Nat→dD→Prop) (h:An G P N l.toArray loud F Q l.length (Array.replicate l.length false) t H):W G P N (.region c l.toArray true) Q t H:=
 ⟨λa w ha b=>wp_region_any hm (yJ (G:=G) (loud:=loud) (F:=F) (K:=λa H=>∃t,Fr N t a∧Q .normal t H) (λa w H b ⟨t,h1,h2⟩=>⟨t,H,h1,b,h2⟩) _ _ _ _ H (b.same rfl ⟨b.1.os,b.1.tape,b.1.output⟩) (by simpa using h.go a ha))⟩
theorem FF (hr:(Region.ready .any ops listed).isEmpty=true) (a:∀i,vD ops loud i listed→F i H) (h:Q .normal t H):An G P N ops loud F Q 0 listed t H:=
 ⟨λ_ ha=>⟨a,by simpa using hr,t,ha,h⟩⟩
def Qv (G:dJ) (P:Program) (F:dD→Prop) (o:Oper) (t:Tm) (v:Value):Prop:=∀H,F H→St G P o t H (λu H'=>u=v∧H'=H)
theorem ea {F:dD→Prop}(h:∀H,F H→Ev G P o t H v):Qv G P F o t v:=λH a=>(h H a).st
theorem Qv.quiet {F:dD→Prop}(ha:Fr N t a) (h:Qv G P F o t v){H:dD}(g:F H):Na G P o a H v:=by
 intro w d;have h1:=h H g a.eval ha.agree w d;generalize (execOp a.eval o).run P w=r at*;cases r with
 |ok n w'=>
  cases n <;> simp only[ou]at h1⊢
  case value u=>obtain⟨c,b,rfl,rfl⟩:=h1;exact⟨rfl,b⟩
  case skip=>obtain⟨c,b,rfl,rfl⟩:=h1;exact⟨rfl,b⟩
  case enter f args=>
   exact h1.mono λe w'' he=>by
    cases e with
    |returned u=>obtain⟨c,b,rfl,rfl⟩:=he;exact⟨rfl,b⟩
    |_=>exact he
 |halt x w'=>simp only[ou]at h1
def lP (ops:Array Oper) (listed:Array Bool) (i:Nat):Bool:=
 Region.noSelect ops&&Region.free .any ops listed i&&Hj ops listed i&&(Region.ready .any ops listed).contains i
theorem uA {loud:Nat→Bool}{F:Nat→dD→Prop}(hi:ops[i]? =some o) (hl:loud i=false) (b:lP ops listed i=true) (hd:iJ N o.dst=true) (hy:∀a,Fr N t a→qj G P ops (F i) o a v) (h:An G P N ops loud F Q fuel (listed.setIfInBounds i true) (put t o.dst v) H):An G P N ops loud F Q (fuel+1) listed t H:=by
 simp only[lP,Xu]at b;obtain⟨⟨⟨h1,h2⟩,h3⟩,h4⟩:=b;exact⟨λa ha=>sA.first hi hl (Region.noSelect_spec h1) fuel listed a H (Region.free_spec hi h2) (Bs h3) (by simpa using h4) (hy a ha) (h.go _ (ha.put hd v))⟩
theorem dS {loud:Nat→Bool}{F:Nat→dD→Prop}(i:Nat) (hi:ops[i]? =some ⟨dst,op,ty,pos,after,none⟩) (hl:loud i=false) (b:lP ops listed i=true) (hd:iJ N dst=true) (a:Qv G P (F i) ⟨dst,op,ty,pos,after,none⟩ t v) (h:An G P N ops loud F Q fuel (listed.setIfInBounds i true) (put t dst v) H):An G P N ops loud F Q (fuel+1) listed t H:=
 uA hi hl b hd (λ_ ha=>.inl ⟨cM,λ_ c=>a.quiet ha c⟩) h
theorem lH {loud:Nat→Bool}{F:Nat→dD→Prop}(i:Nat) (hi:ops[i]? =some ⟨dst,op,ty,pos,after,some (j,want)⟩) (hj:(ops[j]?).bind (·.dst)=some d) (hv:look t d=some (.bool want)) (hl:loud i=false) (b:lP ops listed i=true) (hd:iJ N dst=true) (a:Qv G P (F i) ⟨dst,op,ty,pos,after,some (j,want)⟩ t v) (h:An G P N ops loud F Q fuel (listed.setIfInBounds i true) (put t dst v) H):An G P N ops loud F Q (fuel+1) listed t H:=
 uA hi hl b hd (λ_ ha=>.inl ⟨di,λ_ c=>a.quiet ha c⟩) h
theorem UM {loud:Nat→Bool}{F:Nat→dD→Prop}(i:Nat) (hi:ops[i]? =some ⟨dst,op,ty,pos,after,some (j,want)⟩) (hj:(ops[j]?).bind (·.dst)=some d) (hv:look t d=some (.bool !want)) (hl:loud i=false) (a:lP ops listed i=true) (hd:iJ N dst=true) (h:An G P N ops loud F Q fuel (listed.setIfInBounds i true) (put t dst undef) H):An G P N ops loud F Q (fuel+1) listed t H:=
 uA hi hl a hd (λ_ ha=>.inr ⟨di,rfl⟩) h
theorem fH {loud:Nat→Bool}{F:Nat→dD→Prop}(i:Nat) (hi:ops[i]? =some ⟨dst,op,ty,pos,after,none⟩) (hl:loud i=false) (c:lP ops listed i=true) (hd:iJ N dst=true) (a:Qv G P (F i) ⟨dst,op,ty,pos,after,none⟩ t (.bool b)) (h1:b=true→An G P N ops loud F Q fuel (listed.setIfInBounds i true) (put t dst (.bool true)) H) (h2:b=false→An G P N ops loud F Q fuel (listed.setIfInBounds i true) (put t dst (.bool false)) H):An G P N ops loud F Q (fuel+1) listed t H:=
 dS i hi hl c hd a cq
theorem kg {loud:Nat→Bool}{F:Nat→dD→Prop}(i:Nat) (hi:ops[i]? =some ⟨dst,op,ty,pos,after,none⟩) (hr:Region.ready .any ops listed= [i]) (hd:iJ N dst=true) (k:∀i,vD ops loud i listed→F i H) (hs:St G P ⟨dst,op,ty,pos,after,none⟩ t H R) (h:∀v b,R v b→An G P N ops loud F Q fuel (listed.setIfInBounds i true) (put t dst v) b):An G P N ops loud F Q (fuel+1) listed t H:=
 ⟨λa ha=>⟨k,λh0=>(cw),λj hj=>by
  rw[hr]at hj;obtain rfl:j=i:=by simpa using hj
  unfold OpK;simp only[hi];rw[if_pos cM];intro w g;have h1:=hs a.eval ha.agree w g;generalize (execOp a.eval _).run P w=r at*;cases r with
  |ok n w'=>
   cases n <;> simp only[ou]at h1 <;> simp only[px]
   case value u=>obtain⟨b,d,c⟩:=h1;exact⟨b,d,(h u b c).go _ (ha.put hd u)⟩
   case skip=>obtain⟨b,d,c⟩:=h1;exact⟨b,d,(h _ b c).go _ (ha.put hd _)⟩
   case enter f args=>
    exact h1.mono λe w'' he=>by
     cases e with
     |returned u=>obtain⟨b,d,c⟩:=he;exact⟨b,d,(h u b c).go _ (ha.put hd u)⟩
     |_=>exact he
  |halt x w'=>simp only[ou]at h1⟩⟩
theorem Bw {loud:Nat→Bool}{F:Nat→dD→Prop}{c:Option Tmp}{s:Op}{l:TypeId}{g:String}{d:Array Edge}{R2:Value→dD→Prop}(i j:Nat) (hi:ops[i]? =some ⟨dst,op,ty,pos,after,none⟩) (hj:ops[j]? =some ⟨c,s,l,g,d,none⟩) (hr:Region.ready .any ops listed= [i,j]) (hd:iJ N dst=true) (A:iJ N c=true) (C:∀i,vD ops loud i listed→F i H) (hs:St G P ⟨dst,op,ty,pos,after,none⟩ t H R) (z:St G P ⟨c,s,l,g,d,none⟩ t H R2) (h:∀v b,R v b→An G P N ops loud F Q fuel (listed.setIfInBounds i true) (put t dst v) b) (h2:∀v b,R2 v b→An G P N ops loud F Q fuel (listed.setIfInBounds j true) (put t c v) b):An G P N ops loud F Q (fuel+1) listed t H:=
 ⟨λa ha=>⟨C,λh0=>(cw),λk hk=>by
  rw[hr]at hk;have y:∀(m:Nat) (dst:Option Tmp) (op:Op) (ty:TypeId) (pos:String) (after:Array Edge) (R:Value→dD→Prop),ops[m]? =some ⟨dst,op,ty,pos,after,none⟩→iJ N dst=true→St G P ⟨dst,op,ty,pos,after,none⟩ t H R→(∀v b,R v b→An G P N ops loud F Q fuel (listed.setIfInBounds m true) (put t dst v) b)→
   OpK G P ops m (sA G P ops loud F (λa H=>∃t,Fr N t a∧Q .normal t H) fuel (listed.setIfInBounds m true)) a H:=by
   intro m dst op ty pos after R hi hd hs h;unfold OpK;simp only[hi];rw[if_pos cM];intro w B;have h1:=hs a.eval ha.agree w B;generalize (execOp a.eval _).run P w=r at*;cases r with
   |ok n w'=>
    cases n <;> simp only[ou]at h1 <;> simp only[px]
    case value u=>obtain⟨b,q,p⟩:=h1;exact⟨b,q,(h u b p).go _ (ha.put hd u)⟩
    case skip=>obtain⟨b,q,p⟩:=h1;exact⟨b,q,(h _ b p).go _ (ha.put hd _)⟩
    case enter f args=>
     exact h1.mono λe w'' he=>by
      cases e with
      |returned u=>obtain⟨b,q,p⟩:=he;exact⟨b,q,(h u b p).go _ (ha.put hd u)⟩
      |_=>exact he
   |halt x w'=>simp only[ou]at h1
  rcases Xo.1 hk with rfl|hk
  ·exact y _ _ _ _ _ _ _ hi hd hs h
  ·obtain rfl:k=j:=by simpa using hk
   exact y _ _ _ _ _ _ _ hj A z h2⟩⟩
abbrev tz:Nat→Bool:=λ_=>false
abbrev at_ (H:dD):Nat→dD→Prop:=λ_ H'=>H'=H
theorem ey {H:dD}(h:Ev G P o t H v):Qv G P (λa=>a=H) o t v:=λ_ e=>by rw[e];exact h.st
theorem iR {H:dD}{f:FuncId}{xs:List Operand}{ats:Array TypeId}{g:Option (Nat×Bool)}{vs:List Value}(hx:ui t xs=some vs) (hc:SC G P f vs H (λu H'=>u=v∧H'=H)):
 Qv G P (λH'=>H'=H) ⟨dst,.call ⟨.value (.func f),xs.toArray,ats⟩,ty,pos,after,g⟩ t v:=λ_ e=>by rw[e];exact lU hx hc
theorem Td (hj:(ops[j]?).bind (·.dst)=some d) (hv:look t d=some (.bool want)) (hd:iJ N dst=true) (h:St G P ⟨dst,op,ty,pos,after,some (j,want)⟩ t H R) (hk:∀v H',R v H'→O G P N ops l Q (put t dst v) H'):O G P N ops (⟨dst,op,ty,pos,after,some (j,want)⟩::l) Q t H:=
 xH hj hv (λ_=>h) hd (λ_=>hk) (λh=>absurd rfl h)
theorem wq (hj:(ops[j]?).bind (·.dst)=some d) (hv:look t d=some (.bool want)) (hd:iJ N dst=true) (h:Ev G P ⟨dst,op,ty,pos,after,some (j,want)⟩ t H v) (hk:O G P N ops l Q (put t dst v) H):O G P N ops (⟨dst,op,ty,pos,after,some (j,want)⟩::l) Q t H:=
 Td hj hv hd h.st (λ_ _ ⟨e1,e2⟩=>by rw[e1,e2];exact hk)
theorem KZ (hj:(ops[j]?).bind (·.dst)=some d) (hv:look t d=some (.bool !want)) (hd:iJ N dst=true) (hk:O G P N ops l Q (put t dst undef) H):O G P N ops (⟨dst,op,ty,pos,after,some (j,want)⟩::l) Q t H:=
 xH (R:=λ_ _=>False) hj hv (λh=>absurd h (by cases want <;> simp)) hd (λh=>absurd h (by cases want <;> simp)) (λ_=>hk)
theorem P5 (h:Ev G P ⟨dst,op,ty,pos,after,none⟩ t H (.bool b)) (hd:iJ N dst=true) (h1:b=true→O G P N ops l Q (put t dst (.bool true)) H) (h2:b=false→O G P N ops l Q (put t dst (.bool false)) H):O G P N ops (⟨dst,op,ty,pos,after,none⟩::l) Q t H:=
 L7 h hd cq
theorem EJ (hj:(ops[j]?).bind (·.dst)=some d) (hv:look t d=some (.bool want)) (h:Ev G P ⟨dst,op,ty,pos,after,some (j,want)⟩ t H (.bool b)) (hd:iJ N dst=true) (h1:b=true→O G P N ops l Q (put t dst (.bool true)) H) (h2:b=false→O G P N ops l Q (put t dst (.bool false)) H):O G P N ops (⟨dst,op,ty,pos,after,some (j,want)⟩::l) Q t H:=
 wq hj hv hd h cq
end
end
section
variable {E T T2:TypeId}{bb:Nat}{α:Type}{e:Enc α}{s s2:SV}{w:World}{x y:Operand}{xs:List Nat}{ys:List α}{z:Value}
section
variable {G:dJ}{P:Program}{N:Nat}{Q:Post}{t:Tm}{H:dD}{dst:Option Tmp}{ty:TypeId}{pos:String}{after:Array Edge}{g:Option (Nat×Bool)}
theorem w7 {d2:TypeDesc}{v:Value}{m a:Nat}{cs:List Value} [hT:Und P T (.slice E)] [hT2:Und P T2 d2] [hE:Inf P E a bb z] (d:d2=.string∨∃i,d2=.slice i) (c:a=e.sz) (b:z.cells.size=a) (g:Sat G w H) (h:E5 P a v m cs w) (f:cs=e.all ys) (hm:m=ys.length) (hlim:ys.length*bb≤140737488355328) (hlim2:ys.length≤140737488355328):
 ∃(s':SV) (w':World),(Builtin.append_ #[T,T2] ty #[.slice none 0 0,v]).run P w=.ok s'.val w'∧Sat G w' (Row s' e ys::H):=by
 have:=pJ (ty:=ty) (T:=T) (T2:=T2) (xs:= []) (ys:=ys) (s:=SV.nil) (e:=e) d c b (hf:=nM.head (H:=H)) (g.nilRow e) h f hm (by simpa using hlim) (by simpa using hlim2);simp only[Ye]at this;exact this
theorem D3 [hs:Sl H s2 e ys] (c:Sat G w H):E5 P e.sz s2.val ys.length (e.all ys) w:=by
 obtain⟨h1,_,h3⟩:=hs.get c;refine⟨by simp[Builtin.lenOf,SV.val,h1],λd=>?_⟩;rcases h3 with⟨rfl,_⟩|⟨b,a,C0,E0,fz,h4,f,_,h6⟩
 ·rw[Yc,mu,Enc.all_nil]
 ·have:=fT (P:=P) (w:={w with drawn:=d}) (o:=a) f (e.all ys) h6;rw[e.all_length]at this;simp only[Builtin.firstCells,SV.val,h4,this]
def dC (s:ByteArray):List Nat:=s.data.toList.map (·.toNat)
theorem dI (s:ByteArray):(dC s).length=s.size:=by simp[dC]
theorem u9 (s:ByteArray):E5 P eB.sz (.string s) (dC s).length (eB.all (dC s)) w:=by
 refine⟨by simp[Builtin.lenOf,dI],λd=>?_⟩;simp only[Builtin.firstCells,Sem.run_pure,dI,ByteArray.extract_zero_size];congr 1;apply Array.ext';simp only[Enc.all,dC,eB,List.flatMap_map,Array.toList_map]
 induction s.data.toList with
 |nil=>rfl
 |cons x xs ih=>simp[ih]
theorem kA {h:TypeId}{b:Nat}(hx:evo t x=some (.slice none 0 0)) (hy:evo t y=some s2.val) [hT:Und P T (.slice E)] [hT2:Und P T2 (.slice h)] [hE:Inf P E b bb z] [hs:Sl H s2 e ys] (f:b=e.sz) (c:z.cells.size=b) (hlim:ys.length*bb≤140737488355328) (hlim2:ys.length≤140737488355328):
 St G P ⟨dst,.call ⟨.builtin .append, #[x,y], #[T,T2]⟩,ty,pos,after,g⟩ t H (λu j=>∃a:SV,u=a.val∧j=Row a e ys::H):=
 fun ρ hρ w hw=>by
  subst f;obtain⟨a,i,hr,d⟩:=w7 (ty:=ty) (T:=T) (T2:=T2) (d2:=.slice h) (P:=P) (E:=E) (.inr ⟨h,rfl⟩) rfl c hw (D3 (P:=P) (hs:=hs) hw) rfl rfl hlim hlim2;have:(execOp ρ ⟨dst,.call ⟨.builtin .append, #[x,y], #[T,T2]⟩,ty,pos,after,g⟩).run P w=.ok (.value a.val) i:=by
   simp only[execOp,resolve,invoke,builtin,Uy,Xs,Ud,hρ _ _ hx,hρ _ _ hy,Sem.run_bind,Sem.run_pure,Result.andThen_ok,hr]
  rw[this];exact⟨_,d,a,rfl,rfl⟩
theorem yL {q:ByteArray}{C:Hp→dD}(hx:evo t x=some s.val) (hy:evo t y=some (.string q)) [hT:Und P T (.slice E)] [hT2:Und P T2 .string] [hE:Inf P E 1 bb z] [hf:nM H s eB xs C] (b:z.cells.size=1) (hlim:(xs.length+q.size)*bb≤140737488355328) (hlim2:xs.length+q.size≤140737488355328):
 St G P ⟨dst,.call ⟨.builtin .append, #[x,y], #[T,T2]⟩,ty,pos,after,g⟩ t H (λu e=>∃a:SV,u=a.val∧e=C (Row a eB (xs++dC q))):=
 fun ρ hρ w hw=>by
  obtain⟨a,d,hr,c⟩:=pJ (ty:=ty) (T:=T) (T2:=T2) (d2:=.string) (P:=P) (E:=E) (ys:=dC q) (.inl rfl) rfl b (hf:=hf) hw (u9 q) rfl rfl (by rw[dI];exact hlim) (by rw[dI];exact hlim2);have:(execOp ρ ⟨dst,.call ⟨.builtin .append, #[x,y], #[T,T2]⟩,ty,pos,after,g⟩).run P w=.ok (.value a.val) d:=by
   simp only[execOp,resolve,invoke,builtin,Uy,Xs,Ud,hρ _ _ hx,hρ _ _ hy,Sem.run_bind,Sem.run_pure,Result.andThen_ok,hr]
  rw[this];exact⟨_,c,a,rfl,rfl⟩
theorem yR (e:Enc α) (n:Nat) (x:α):∀j,j<n*e.sz→(e.all (List.replicate n x))[j]? =(e.f x)[j%e.sz]? :=by
 induction n with
 |zero=>intro j h;omega
 |succ n ih=>
  intro j h;rw[V6,Enc.all_cons]
  by_cases hj:j<e.sz
  ·rw[Yv (by rw[e.len];exact hj),Xw hj]
  ·rw[Yu bN,e.len,ih _ (by rw[Vy]at h;omega)];rw[←Nat.mod_eq_sub_mod a8]
theorem gn {k k':IntKind}{i j:Int}(e:Enc α) (a:α) [hT:Und P T (.slice E)] [r:Inf P E e.sz bb z] (hx:evo t x=some (.int k i)) (hy:evo t y=some (.int k' j)) (n c:Nat) (hi:i=n) (hj:j=c) (q:z.cells=(e.f a).toArray) (b:n≤c) (hc:bb*c≤281474976710656) (hc2:c≤281474976710656):
 St G P ⟨dst,.makeSlice T x y,ty,pos,after,g⟩ t H (λu A=>∃s:SV,u=s.val∧s.n=n∧s.c=c∧A=Row s e (List.replicate n a)::H):=
 fun ρ hρ w hw=>by
  obtain⟨inf,m,hi2,l,hi4⟩:=r.out;have f:IntKind.i64.wrap (c:Int)=c:=kH a8;have d:IntKind.i64.wrap (n:Int)=n:=kH a8;have p:((bb:Int)*(c:Int))=((bb*c:Nat):Int):=aq;have hr:(execOp ρ ⟨dst,.makeSlice T x y,ty,pos,after,g⟩).run P w=.ok (.value (.slice (some ⟨w.heap.size,0,none⟩) n c)) {w with heap:=w.heap.push (.cells ((Array.range (c*e.sz)).map ((if c*e.sz=0 then #[]else(e.f a).toArray)[· % (if c*e.sz=0 then #[]else(e.f a).toArray:Array Value).size]!)) E)}:=by
   have h1:¬((c:Int)<0):=a8;have h2:¬(((bb*c:Nat):Int) > 2^48):=by
    have:(2:Int)^48=281474976710656:=rfl;omega
   have h3:¬((n:Int)<0):=a8;have h4:¬((n:Int) > (c:Int)):=a8;simp only[execOp,hρ _ _ hx,hρ _ _ hy,Instr.makeSlice,Sem.run_bind,ef (T:=T),Result.andThen_ok,asInt,asIntOf,Sem.run_pure,hi,hj,typeInfo,run_program,m,l,f,d,p];simp only[h1,h2,h3,h4,decide_false,Bool.or_self,Xx,↓reduceIte,Sem.run_bind,run_askRoom,Result.andThen_ok,fy (T:=E) (s:=e.sz),Ve]
   by_cases h0:c*e.sz=0
   ·simp only[h0,↓reduceIte,Sem.run_bind,Sem.run_pure,Result.andThen_ok];rfl
   ·simp only[h0,↓reduceIte,Sem.run_bind,Sem.run_pure,Result.andThen_ok,mb (T:=E),q];rfl
  rw[hr];refine⟨_,hw.newRow e (List.replicate n a) _ E n c aq b aq ?_,⟨some ⟨w.heap.size,0,none⟩,n,c⟩,rfl,rfl,rfl,rfl⟩;intro j v hv;have hj:=(Yk.1 hv).1;rw[e.all_length,Xe]at hj;have h:j<c*e.sz:=Q6 hj (Vu _ b);have h0:c*e.sz≠0:=a8;rw[yR e n a j hj]at hv;have hm:j%e.sz<(e.f a).length:=by rw[e.len];exact V2 _ e.pos
  simp only[h0,↓reduceIte,Array.getElem?_map,List.size_toArray,e.len];rw[Array.getElem?_range,if_pos h];simp only[Vs];rw[Yi hm]at hv;rw[←hv];congr 1;simp[hm]
def eG (xs:List Nat):ByteArray:=⟨(xs.map UInt8.ofNat).toArray⟩
theorem fD (h:∀x∈xs,x<256):dC (eG xs)=xs:=by
 simp only[dC,eG,Uo];refine(T1 λx hx=>?_).trans (P0 xs);have:=h x hx;simp[Xw this]
theorem jW (s:ByteArray):eG (dC s)=s:=by
 simp only[dC,eG,Uo];cases s with
 |mk d=>
  congr 1;apply Array.ext';simp only[];refine(T1 λx _=>?_).trans (P0 d.toList);simp
theorem jy {s u:ByteArray}:dC s=dC u↔s=u:=⟨λh=>by rw[←jW s,←jW u,h],λh=>by rw[h]⟩
theorem lZ (s:ByteArray):∀x∈dC s,x<256:=by
 intro x hx;obtain⟨y,_,rfl⟩:=Xt.1 hx;exact y.toNat_lt
theorem fG (s u:ByteArray):dC (s++u)=dC s++dC u:=by simp[dC,ByteArray.data_append]
theorem j9 (xs:List Nat):(eG xs).size=xs.length:=by simp[eG,ByteArray.size]
theorem D4 (xs:List Nat):∀a:ByteArray,(xs.map (fun(n:Nat)=>(n:Int))).foldl (λr n=>r.push (UInt8.ofNat n.toNat)) a=⟨a.data++(xs.map UInt8.ofNat).toArray⟩:=by
 induction xs with
 |nil=>intro a;simp
 |cons x xs ih=>
  intro a;simp only[Xs,List.foldl_cons,Ve];rw[ih];congr 1;apply Array.ext';simp[ByteArray.push]
theorem Fw (xs:List Nat):eB.all xs=(xs.map (fun(n:Nat)=>(n:Int))).map (Value.int .u8):=by
 induction xs with
 |nil=>rfl
 |cons x xs ih=>rw[Enc.all_cons,ih];rfl
theorem fx {S D:TypeId} [hS:Und P S (.slice E)] [hD:Und P D .string] [hE:Und P E (.int .u8)] (hx:evo t x=some s.val) [hs:Sl H s eB xs]:
 Ev G P ⟨dst,.convert S D x,ty,pos,after,g⟩ t H (.string (eG xs)):=
 fun ρ hρ w hw=>by
  obtain⟨h1,_,h3⟩:=hs.get hw;rcases h3 with⟨rfl,_⟩|⟨b,c,C0,E0,fz,h4,e,_,h6⟩
  ·simp only[Yc]at h1;simp only[execOp,convert,hρ _ _ hx,Sem.run_bind,ef (T:=S),ef (T:=D),ef (T:=E),Result.andThen_ok,SV.val,h1];cases h4:s.a with
   |none=>
    simp only[Conv.bytesToString,Sem.run_bind,Sem.run_pure];rfl
   |some a=>
    have h8:=run_bytesToString (P:=P) w a 0 s.c [] (by simp[loadCells,loadCellsFrom]);simp only[h8,Result.andThen_ok,Sem.run_pure];rfl
  ·have d:=fT (P:=P) (o:=c) e (eB.all xs) h6;rw[eB.all_length,show eB.sz=1 from rfl,U5,←h1]at d;rw[Fw]at d;have h8:=run_bytesToString (P:=P) w ⟨b,c,none⟩ s.n s.c _ d;rw[D4]at h8;simp only[execOp,convert,hρ _ _ hx,Sem.run_bind,ef (T:=S),ef (T:=D),ef (T:=E),Result.andThen_ok,SV.val,h4,h8,Sem.run_pure];congr 4;apply Array.ext';simp
end
end
section
variable {E T U:TypeId}{a b s:ByteArray}{ix x y:Operand}{j:Int}{k:IntKind}{l:List Value}{ms:Array (String×TypeId)}{p:Option Addr}{v z:Value}{w:World}
class E4 (H:dD) (b:Nat):Prop where
 mem:∀L,Sep H L→∃C E,(b,Obj.cells C E (0,0))∈L
instance E4.tail {A:Hp}{H:dD}{b:Nat} [h:E4 H b]:E4 (A::H) b:=
 ⟨λL hL=>by obtain⟨L1,L2,rfl,_,h2⟩:=hL;obtain⟨C,E,hm⟩:=h.mem _ h2;exact⟨C,E,Yx _ hm⟩⟩
theorem E4.get {G:dJ}{H:dD}{b:Nat}(h:E4 H b) (hs:Sat G w H):∃C E,w.heap[b]? =some (.cells C E (0,0)):=by
 obtain⟨_,L,hL,hl⟩:=hs;obtain⟨C,E,hm⟩:=h.mem L hL;exact⟨C,E,hl.at_ _ hm⟩
def dJ.err (G:dJ) (i:Nat):Value:=.iface G.eT (.pointer (some ⟨G.eb i,G.eo i,none⟩))
class Qq (l:List (Nat×Nat)) (i:Nat) (x:outParam (Nat×Nat)):Prop where
 out:l[i]? =some x
instance {x:Nat×Nat}{l:List (Nat×Nat)}:Qq (x::l) 0 x:=⟨rfl⟩
instance {y x:Nat×Nat}{l:List (Nat×Nat)}{n:Nat} [h:Qq l n x]:Qq (y::l) (n+1) x:=⟨by simpa using h.out⟩
class Qr (l:List Value) (n:Nat):Prop where
 out:l.length=n
instance:Qr [] 0:=⟨rfl⟩
instance {x:Value}{l:List Value}{n:Nat} [h:Qr l n]:Qr (x::l) (n+1):=⟨by simp[h.out]⟩
class Fil (places:List (Nat×Nat)) (l:List Value) (ps:List (Nat×Value)) (l':outParam (List Value)):Prop where
 out:Instr.fill (λi=>places[i]?) l.toArray ps=some l'.toArray
instance Fil.nil {places:List (Nat×Nat)}{l:List Value}:Fil places l [] l:=⟨rfl⟩
instance Fil.cons {places:List (Nat×Nat)}{l:List Value}{i:Nat}{v:Value}{ps:List (Nat×Value)}{off n:Nat}{cs l1 l':List Value} [h1:Qq places i (off,n)] [h2:qv v cs] [h3:Qr cs n] [h4:Spl l off cs l1] [h5:Fil places l1 ps l']:Fil places l ((i,v)::ps) l':=
 ⟨by
  have hf:=h4.fit
  have e1:(cs.toArray.zipIdx.foldl (λa (y:Value×Nat)=>a.setIfInBounds (off+y.2) y.1) l.toArray)=l1.toArray:=by
   rw[←Array.foldl_toList]
   have:=zG cs l.toArray off 0
   rw[show cs.toArray.zipIdx.toList=cs.zipIdx 0 from aq,this]
   have h6:=h4.out l.toArray (aq)
   apply Array.ext'
   simpa using h6
  simp only[Instr.fill,h1.out,h2.out]
  rw[if_neg (by simp[h3.out];have:=h3.out;omega)]
  have:=h5.out
  rw[←e1]at this
  exact this⟩
class Str (P:Program) (T:TypeId) (places:outParam (List (Nat×Nat))) (z:outParam (List Value)):Prop where
 out:∃fields i zv,P.underlying T=some (.struct fields)∧(∀w,(fields.mapM fun(f:Field)=>(do pure (f.offset,←sizeOf f.type):Sem (Nat×Nat))).run P w=.ok places.toArray w)∧P.info? T=some i∧i.zero=some zv∧zv.cells=z.toArray
section
variable {G:dJ}{P:Program}{N:Nat}{Q:Post}{t:Tm}{H:dD}{dst:Option Tmp}{ty:TypeId}{pos:String}{after:Array Edge}{g:Option (Nat×Bool)}
theorem Mw {ps:List (Nat×Operand)}{vs:List (Nat×Value)}{a:List (Nat×Nat)}{z:List Value}(hp:wc t ps=some vs) [hs:Str P T a z] [hf:Fil a z vs l]:
 Ev G P ⟨dst,.build T ps.toArray,ty,pos,after,g⟩ t H (.agg l.toArray):=
 fun ρ hρ w _=>by
  obtain⟨b,i,d,h1,h2,h3,h4,h5⟩:=hs.out;have j:(underlying T).run P w=.ok (.struct b) w:=by simp[underlying,h1]
  have h:(zeroValue T).run P w=.ok d w:=by simp[zeroValue,typeInfo,h3,h4]
  have f:(ps.toArray.map fun(i,x)=>(i,ρ x)).toList=vs:=by simp[uh hρ hp]
  have c:=hf.out;have e:(fun(i:Nat)=>a.toArray[i]?)=fun(i:Nat)=>a[i]? :=by funext i;simp
  simp only[execOp,Instr.build,Sem.run_bind,j,h,h2,Result.andThen_ok,f,h5,e,c,Sem.run_pure]
theorem ie {op:BinOp}{a b:Value}(h:(match x with| .const _=>true|_=>false)=true∨(match y with| .const _=>true|_=>false)=true) (ha:∀c,a≠ .agg c):(eqGuard op T x y a b).run P w=.ok () w:=by
 unfold eqGuard;cases op <;> simp only[T6,T7,Xx,↓reduceIte,Sem.run_pure]
 all_goals
  cases a <;> first
   |exact absurd rfl (ha _)
   |(cases b <;> first
       |rfl
       |(cases x <;> cases y <;> simp at h <;> rfl))
theorem jX {x y:Value}{r:Bool}(h:∀d,(Op.equalIn (d+1) T x y).run P w=.ok r w):(Op.equal T x y).run P w=.ok r w:=h 9999
theorem iB [hT:Und P T (.interface ms)] (hx:evo t x=some .nilIface):Ev G P ⟨dst,.binOp .eql T x (.const .nilIface) U,ty,pos,after,g⟩ t H (.bool true):=
 fun ρ hρ w _=>by
  have h1:=ie (P:=P) (op:=.eql) (T:=T) (x:=x) (y:=.const .nilIface) (w:=w) (a:=.nilIface) (b:=.nilIface) (.inr rfl) (λc h=>bx);have h2:=jX (P:=P) (w:=w) (T:=T) (x:=.nilIface) (y:=.nilIface) (r:=true) (λd=>aI);simp only[execOp,hρ _ _ hx,hρ (.const .nilIface) _ rfl,Sem.run_bind,h1,Result.andThen_ok,binOp,h2,Sem.run_pure]
theorem dL [hT:Und P T (.interface ms)] (hx:evo t x=some .nilIface):Ev G P ⟨dst,.binOp .neq T x (.const .nilIface) U,ty,pos,after,g⟩ t H (.bool false):=
 fun ρ hρ w _=>by
  have h1:=ie (P:=P) (op:=.neq) (T:=T) (x:=x) (y:=.const .nilIface) (w:=w) (a:=.nilIface) (b:=.nilIface) (.inr rfl) (λc h=>bx);have h2:=jX (P:=P) (w:=w) (T:=T) (x:=.nilIface) (y:=.nilIface) (r:=true) (λd=>aI);simp only[execOp,hρ _ _ hx,hρ (.const .nilIface) _ rfl,Sem.run_bind,h1,Result.andThen_ok,binOp,h2,Sem.run_pure,T6]
theorem ny {u:TypeId} [hT:Und P T (.interface ms)] (hx:evo t x=some (.iface u v)):Ev G P ⟨dst,.binOp .eql T x (.const .nilIface) U,ty,pos,after,g⟩ t H (.bool false):=
 fun ρ hρ w _=>by
  have h1:=ie (P:=P) (op:=.eql) (T:=T) (x:=x) (y:=.const .nilIface) (w:=w) (a:=.iface u v) (b:=.nilIface) (.inr rfl) (λc h=>bx);have h2:=jX (P:=P) (w:=w) (T:=T) (x:=.iface u v) (y:=.nilIface) (r:=false) (λd=>aI);simp only[execOp,hρ _ _ hx,hρ (.const .nilIface) _ rfl,Sem.run_bind,h1,Result.andThen_ok,binOp,h2,Sem.run_pure]
theorem eg {u:TypeId} [hT:Und P T (.interface ms)] (hx:evo t x=some (.iface u v)):Ev G P ⟨dst,.binOp .neq T x (.const .nilIface) U,ty,pos,after,g⟩ t H (.bool true):=
 fun ρ hρ w _=>by
  have h1:=ie (P:=P) (op:=.neq) (T:=T) (x:=x) (y:=.const .nilIface) (w:=w) (a:=.iface u v) (b:=.nilIface) (.inr rfl) (λc h=>bx);have h2:=jX (P:=P) (w:=w) (T:=T) (x:=.iface u v) (y:=.nilIface) (r:=false) (λd=>aI);simp only[execOp,hρ _ _ hx,hρ (.const .nilIface) _ rfl,Sem.run_bind,h1,Result.andThen_ok,binOp,h2,Sem.run_pure,T7]
theorem gu [hT:Und P T (.pointer E)] (hx:evo t x=some (.pointer p)):Ev G P ⟨dst,.binOp .eql T x (.const (.pointer none)) U,ty,pos,after,g⟩ t H (.bool p.isNone):=
 fun ρ hρ w _=>by
  have h1:=ie (P:=P) (op:=.eql) (T:=T) (x:=x) (y:=.const (.pointer none)) (w:=w) (a:=.pointer p) (b:=.pointer none) (.inr rfl) (λc h=>bx);have h2:=jX (P:=P) (w:=w) (T:=T) (x:=.pointer p) (y:=.pointer none) (r:=p.isNone) (λd=>by cases p <;> simp only[Op.equalIn,Sem.run_bind,ef (T:=T),Result.andThen_ok,Sem.run_pure,Option.isNone]);cases p <;> simp only[execOp,hρ _ _ hx,hρ (.const (.pointer none)) _ rfl,Sem.run_bind,h1,Result.andThen_ok,binOp,h2,Sem.run_pure] <;> rfl
theorem Mn [hT:Und P T (.pointer E)] (hx:evo t x=some (.pointer p)):Ev G P ⟨dst,.binOp .neq T x (.const (.pointer none)) U,ty,pos,after,g⟩ t H (.bool p.isSome):=
 fun ρ hρ w _=>by
  have h1:=ie (P:=P) (op:=.neq) (T:=T) (x:=x) (y:=.const (.pointer none)) (w:=w) (a:=.pointer p) (b:=.pointer none) (.inr rfl) (λc h=>bx);have h2:=jX (P:=P) (w:=w) (T:=T) (x:=.pointer p) (y:=.pointer none) (r:=p.isNone) (λd=>by cases p <;> simp only[Op.equalIn,Sem.run_bind,ef (T:=T),Result.andThen_ok,Sem.run_pure,Option.isNone]);cases p <;> simp only[execOp,hρ _ _ hx,hρ (.const (.pointer none)) _ rfl,Sem.run_bind,h1,Result.andThen_ok,binOp,h2,Sem.run_pure] <;> rfl
theorem Fu {i j:Nat}{q A:Nat} [hT:Und P T (.interface ms)] [r:Und P G.eT (.pointer E)] [hi:Inf P E q A z] (hc:∃k,P.info? G.eT=some k∧k.comparable=true) (m:q≠0) (f:∀a b,G.eb a=G.eb b→G.eo a=G.eo b→a=b) [h1:E4 H (G.eb i)] [h2:E4 H (G.eb j)] (hx:evo t x=some (G.err i)) (hy:evo t y=some (G.err j)):Ev G P ⟨dst,.binOp .eql T x y U,ty,pos,after,g⟩ t H (.bool (decide (i=j))):=
 fun ρ hρ w hw=>by
  obtain⟨k,d,hk2⟩:=hc;obtain⟨c,l,p,_⟩:=hi.out;have v:(eqGuard .eql T x y (G.err i) (G.err j)).run P w=.ok () w:=by simp[eqGuard,dJ.err]
  simp only[execOp,hρ _ _ hx,hρ _ _ hy,Sem.run_bind,v,Result.andThen_ok]
  by_cases e:i=j
  ·subst e;have:=run_eql_iface_ptr_same (P:=P) (w:=w) (ti:=T) (tp:=G.eT) (te:=E) (i:=k) (j:=c) ⟨G.eb i,G.eo i,none⟩ hT.out r.out d hk2 l;simp only[dJ.err,this,Result.andThen_ok,Sem.run_pure,decide_true]
  ·obtain⟨C1,E1,u⟩:=h1.get hw;obtain⟨C2,E2,s⟩:=h2.get hw;have n:(⟨G.eb i,G.eo i,none⟩:Addr)≠⟨G.eb j,G.eo j,none⟩:=λh=>e (f _ _ (by injection h) (by injection h));have:=run_eql_iface_ptr_other (P:=P) (w:=w) (ti:=T) (tp:=G.eT) (te:=E) (i:=k) (j:=c) (a:=⟨G.eb i,G.eo i,none⟩) (b:=⟨G.eb j,G.eo j,none⟩) hT.out r.out d hk2 l (by rw[p];exact m) n u s;simp only[dJ.err,this,Result.andThen_ok,Sem.run_pure,Yr e]
theorem Bv (a b:ByteArray):(a.toList==b.toList)=decide (dC a=dC b):=by
 rw[U2];simp only[beq_iff_eq,Xq,jy,ByteArray.toList_eq];exact⟨λh=>ByteArray.ext (Array.toList_inj.mp h),λh=>by rw[h]⟩
theorem qc (hx:evo t x=some (.string a)) (hy:evo t y=some (.string b)):Ev G P ⟨dst,.binOp .eql T x y U,ty,pos,after,g⟩ t H (.bool (decide (dC a=dC b))):=
 fun ρ hρ w _=>by
  simp only[execOp,hρ _ _ hx,hρ _ _ hy,eqGuard,binOp,Op.stringOp,Bv];rfl
theorem yf (hx:evo t x=some (.string a)) (hy:evo t y=some (.string b)):Ev G P ⟨dst,.binOp .neq T x y U,ty,pos,after,g⟩ t H (.bool (!decide (dC a=dC b))):=
 fun ρ hρ w _=>by
  simp only[execOp,hρ _ _ hx,hρ _ _ hy,eqGuard,binOp,Op.stringOp,Bv];rfl
theorem jn (hx:evo t x=some (.string a)) (hy:evo t y=some (.string b)) (h:a.size+b.size≤9223372036854775807):Ev G P ⟨dst,.binOp .add T x y U,ty,pos,after,g⟩ t H (.string (a++b)):=
 fun ρ hρ w _=>by
  have h1:¬(((a.size+b.size:Nat):Int) > IntKind.i64.max):=by
   simp only[IntKind.max,IntKind.signed,IntKind.bits];simp;omega
  simp only[execOp,hρ _ _ hx,hρ _ _ hy,eqGuard,binOp,Op.stringOp,h1];rfl
theorem qb (hx:evo t x=some (.string s)) (hi:evo t ix=some (.int k j)) [hT:Und P T .string] (i:Nat) (hj:j=i) (y:Nat) (hy:(dC s)[i]? =some y):
 Ev G P ⟨dst,.index T x ix,ty,pos,after,g⟩ t H (.int .u8 (y:Int)):=
 fun ρ hρ w _=>by
  have h1:s[i]? =some (UInt8.ofNat y)∧y<256:=by
   simp only[dC,Xd,R5,Option.map_eq_some_iff]at hy;obtain⟨b,c,rfl⟩:=hy;obtain⟨a,he⟩:=Vc.1 c;refine⟨?_,b.toNat_lt⟩;rw[getElem?_pos s i a];congr 1;show s.data[i]=_;rw[he];simp
  have h0:(0:Int)≤(i:Int):=a8;simp[execOp,hρ _ _ hx,hρ _ _ hi,Instr.index,asIntOf,hj,ef (T:=T),h1.1,Xw h1.2]
theorem iV (s:ByteArray) (l h:Nat):dC (s.extract l h)=((dC s).take h).drop l:=by
 simp[dC,List.map_drop,List.map_take,ByteArray.data_extract,List.drop_take]
theorem mK {lo hi:Option Operand}(hx:evo t x=some (.string s)) [hT:Und P T .string] (l h:Nat) (b:match lo with|none=>l=0|some o=>∃k j,evo t o=some (.int k j)∧j=(l:Int)) (a:match hi with|none=>h=s.size|some o=>∃k j,evo t o=some (.int k j)∧j=(h:Int)) (h1:l≤h) (h2:h≤s.size):
 Ev G P ⟨dst,.slice T x lo hi none,ty,pos,after,g⟩ t H (.string (s.extract l h)):=
 fun ρ hρ w _=>by
  have f:(Instr.sliceBounds false s.size s.size (lo.map ρ) (hi.map ρ) none).run P w=.ok (l,h,s.size) w:=by
   have c:∀(j:Nat) (k:IntKind) (y:Nat) (e:BoundsCode),j≤y→(Instr.sliceBound (.int k (j:Int)) y e).run P w=.ok j w:=by
    intro j k y e hj;have:(j:Int)≤(y:Int):=a8;simp[Instr.sliceBound,asIntOf,this]
   cases lo with
   |none=>
    simp only at b;subst b;cases hi with
    |none=>simp only at a;subst a;simp[Instr.sliceBounds]
    |some o=>
     obtain⟨k,j,h3,h4⟩:=a;subst h4;simp[Instr.sliceBounds,hρ _ _ h3,c h k s.size _ a8]
   |some o'=>
    obtain⟨d,j',h5,h6⟩:=b;subst h6;cases hi with
    |none=>simp only at a;subst a;simp[Instr.sliceBounds,hρ _ _ h5,c l d s.size _ a8]
    |some o=>
     obtain⟨k,j,h3,h4⟩:=a;subst h4;simp[Instr.sliceBounds,hρ _ _ h3,hρ _ _ h5,c h k s.size _ a8,c l d h _ a8]
  simp only[execOp,hρ _ _ hx,Instr.sliceAt,Option.map_none,Sem.run_bind,ef (T:=T),Result.andThen_ok];simp only[Instr.slice,Sem.run_bind,ef (T:=T),Result.andThen_ok,f,Sem.run_pure,Option.isSome_none,Xx,↓reduceIte]
theorem gI {b off n a c:Nat}(hx:evo t x=some (.pointer (some ⟨b,off,none⟩))) (hi:evo t ix=some (.int k j)) [hT:Und P T (.array n E)] [hE:Inf P E a c z] (i:Nat) (hj:j=i) (hlt:i<n):
 Ev G P ⟨dst,.indexAddr T x ix,ty,pos,after,g⟩ t H (.pointer (some ⟨b,off+i*a,none⟩)):=
 fun ρ hρ w _=>by
  have h5:¬(n≤i):=a8;simp[execOp,hρ _ _ hx,hρ _ _ hi,Instr.indexAt,asIntOf,hj,ef (T:=T),Instr.sureAddr,fy (T:=E) (s:=a),jT,h5]
theorem nx {b off:Nat}(hx:evo t x=some (.pointer (some ⟨b,off,none⟩))) [hT:One P T] [hH:dQ H b l] (hv:l[off]? =some v):
 Ev G P ⟨dst,.load T x,ty,pos,after,g⟩ t H v:=
 fun ρ hρ w hw=>by
  obtain⟨E,fz,a⟩:=hH.get hw;have h1:w.cell? ⟨b,off,none⟩=some v:=by rw[qh a];simpa using hv
  simp[execOp,hρ _ _ hx,Instr.loadAt,Instr.sureAddr,loadVar,iZ,h1]
inductive N8 (P:Program) (t:Tm) (H:dD):ResultVar→Value→Prop
 |tmp {r:Tmp}{v:Value}(h:look t r=some v):N8 P t H (.tmp r) v
 |cell {r:Tmp}{T:TypeId}{b n:Nat}{l:List Value}(h:look t r=some (.pointer (some ⟨b,0,none⟩))) [hT:Agg P T n] [hH:dQ H b l] (hn:l.length=n):N8 P t H (.cell r T) (.agg l.toArray)
 |cell1 {r:Tmp}{T:TypeId}{b:Nat}{v:Value}(h:look t r=some (.pointer (some ⟨b,0,none⟩))) [hT:One P T] [hH:dQ H b [v]]:N8 P t H (.cell r T) v
inductive qu (P:Program) (t:Tm) (H:dD):List ResultVar→List Value→Prop
 |nil:qu P t H [] []
 |cons {r:ResultVar}{rs:List ResultVar}{v:Value}{vs:List Value}(h:N8 P t H r v) (h2:qu P t H rs vs):qu P t H (r::rs) (v::vs)
def jt:List Value→Value
 | [v]=>v
 |vs=>.tuple vs.toArray
theorem I7 {g:Func}{K:Value→dD→Prop}{e:Exit}{rs:List ResultVar}{vs:List Value}(k:g.results=rs.toArray) (he:e=.normal∨e=.ret) (hr:qu P t H rs vs) (s:K (jt vs) H):N9 P g K e t H:=by
 refine⟨he,jt vs,s,λG N a w ha q=>?_⟩
 let f:ResultVar→Sem Value:=fun
  | .tmp t=>pure (a.tmps.getD t undef)
  | .cell r t=>do loadVar t (←asAddr (a.tmps.getD r undef))
 have c:∀(r:Tmp) (v:Value),look t r=some v→a.tmps.getD r undef=v:=λr v h=>by
  rw[Array.getD_eq_getD_getElem?,ha.look r v h];rfl
 have i:∀r v,N8 P t H r v→(f r).run P w=.ok v w:=by
  intro r v h;cases h with
  |tmp h=>simp only[f,Sem.run_pure,c _ _ h]
  | @cell r T b n l h hT hH hn=>
   obtain⟨E,fz,m⟩:=hH.get q;have h1:=fT (P:=P) (o:=0) m l (λj v hv=>by simpa using hv);rw[hn]at h1;simp only[f,c _ _ h,asAddr,Sem.run_bind,Sem.run_pure,Result.andThen_ok,loadVar,uQ (n:=n),↓reduceIte,na (n:=n),h1]
  | @cell1 r T b v h hT hH=>
   obtain⟨E,fz,m⟩:=hH.get q;have h1:w.cell? ⟨b,0,none⟩=some v:=by rw[qh m];rfl
   simp only[f,c _ _ h,asAddr,Sem.run_bind,Sem.run_pure,Result.andThen_ok,loadVar,iZ,Xx,↓reduceIte,run_load,h1]
 have p:∀rs vs,qu P t H rs vs→(rs.mapM f).run P w=.ok vs w:=by
  intro rs vs h
  induction h with
  |nil=>rfl
  |cons h _ ih=>simp only[List.mapM_cons,Sem.run_bind,i _ _ h,Result.andThen_ok,ih,Sem.run_pure]
 have hm:(g.results.mapM f).run P w=.ok vs.toArray w:=by
  rw[k,List.mapM_toArray,Sem.run_map,p rs vs hr];rfl
 have d:(results g a.tmps).run P w=.ok (if h:vs.toArray.size=1 then vs.toArray[0]else .tuple vs.toArray) w:=by
  show((g.results.mapM f) >>=λvs=>pure (if h:vs.size=1 then vs[0]else .tuple vs)).run P w=_;rw[Sem.run_bind,hm];rfl
 rw[d];congr 1
 match vs with
 | []=>rfl
 | [v]=>rfl
 |v::u::vs=>simp[jt]
end
end
section
variable {c:Operand}{ds:TypeDesc}
section
variable {G:dJ}{P:Program}{N:Nat}{Q:Post}{t:Tm}{H:dD}{ops:Array Oper}{dst:Option Tmp}{ty:TypeId}{pos:String}{after:Array Edge}{g:Option (Nat×Bool)}
theorem vq {a b:Operand}{d:Value}(hc:evo t c=some (.bool true)) (ha:evo t a=some d):Ev G P ⟨dst,.pick c a b,ty,pos,after,g⟩ t H d:=
 fun ρ hρ w _=>by simp[execOp,hρ _ _ hc,hρ _ _ ha,asBool]
theorem vt {a b:Operand}{vb:Value}(hc:evo t c=some (.bool false)) (d:evo t b=some vb):Ev G P ⟨dst,.pick c a b,ty,pos,after,g⟩ t H vb:=
 fun ρ hρ w _=>by simp[execOp,hρ _ _ hc,hρ _ _ d,asBool]
section
variable {T U:TypeId}{x y:Operand}{k k':IntKind}{i j:Int}(M:Nat)
theorem lk (d:2^k.bits=M) (hx:evo t x=some (.int k i)) (hy:evo t y=some (.int k j)) (hk:k.signed=false) (a b:Nat) (ha:i=a) (c:j=b):
 Ev G P ⟨dst,.binOp .add T x y U,ty,pos,after,g⟩ t H (.int k (((a+b)%M:Nat):Int)):=by subst d;exact PS hx hy hk a b ha c
theorem jo (d:2^k.bits=M) (hx:evo t x=some (.int k i)) (hy:evo t y=some (.int k j)) (hk:k.signed=false) (a b:Nat) (ha:i=a) (c:j=b) (h:a+b<M):
 Ev G P ⟨dst,.binOp .add T x y U,ty,pos,after,g⟩ t H (.int k ((a+b:Nat):Int)):=by
 have:=lk (G:=G) (P:=P) (H:=H) (dst:=dst) (ty:=ty) (pos:=pos) (after:=after) (g:=g) (T:=T) (U:=U) M d hx hy hk a b ha c
 rwa [Xw h]at this
theorem nZ (d:2^k.bits=M) (hx:evo t x=some (.int k i)) (hy:evo t y=some (.int k j)) (hk:k.signed=false) (a b:Nat) (ha:i=a) (c:j=b):
 Ev G P ⟨dst,.binOp .mul T x y U,ty,pos,after,g⟩ t H (.int k (((a*b)%M:Nat):Int)):=by subst d;exact PK hx hy hk a b ha c
theorem Bb (e:2^k.bits=M) (hx:evo t x=some (.int k i)) (hy:evo t y=some (.int k j)) (hk:k.signed=false) (a b:Nat) (ha:i=a) (d:j=b) (c:b≤a) (hlt:a<M):
 Ev G P ⟨dst,.binOp .sub T x y U,ty,pos,after,g⟩ t H (.int k ((a-b:Nat):Int)):=by subst e;exact PF hx hy hk a b ha d c hlt
theorem qd (f:2^k.bits=M) (hx:evo t x=some (.int k i)) (hy:evo t y=some (.int k j)) (hk:k.signed=false) (a b:Nat) (ha:i=a) (e:j=b) (d:a<M) (c:b<M):
 Ev G P ⟨dst,.binOp .and T x y U,ty,pos,after,g⟩ t H (.int k ((a &&& b:Nat):Int)):=by subst f;exact PR hx hy hk a b ha e d c
theorem ku (f:2^k.bits=M) (hx:evo t x=some (.int k i)) (hy:evo t y=some (.int k j)) (hk:k.signed=false) (a b:Nat) (ha:i=a) (e:j=b) (d:a<M) (c:b<M):
 Ev G P ⟨dst,.binOp .or T x y U,ty,pos,after,g⟩ t H (.int k ((a |||b:Nat):Int)):=by subst f;exact TW hx hy hk a b ha e d c
theorem q9 (f:2^k.bits=M) (hx:evo t x=some (.int k i)) (hy:evo t y=some (.int k j)) (hk:k.signed=false) (a b:Nat) (ha:i=a) (e:j=b) (d:a<M) (c:b<M):
 Ev G P ⟨dst,.binOp .xor T x y U,ty,pos,after,g⟩ t H (.int k ((a ^^^ b:Nat):Int)):=by subst f;exact PE hx hy hk a b ha e d c
theorem Be (c:2^k.bits=M) (hx:evo t x=some (.int k i)) (hk:k.signed=false) (a:Nat) (ha:i=a) (b:a<M):
 Ev G P ⟨dst,.unOp .xor T x,ty,pos,after,g⟩ t H (.int k (((M-1) ^^^ a:Nat):Int)):=by subst c;exact PJ hx hk a ha b
theorem wA (d:2^k.bits=M) (hx:evo t x=some (.int k i)) (hy:evo t y=some (.int k' j)) (hk:k.signed=false) (a b:Nat) (ha:i=a) (c:j=b):
 Ev G P ⟨dst,.binOp .shl T x y U,ty,pos,after,g⟩ t H (.int k ((a*2^b%M:Nat):Int)):=by subst d;exact PH hx hy hk a b ha c
theorem Bc (d:2^k.bits=M) (hx:evo t x=some (.int k i)) (hy:evo t y=some (.int k' j)) (hk:k.signed=false) (a b:Nat) (ha:i=a) (c:j=b) (h:a*2^b<M):
 Ev G P ⟨dst,.binOp .shl T x y U,ty,pos,after,g⟩ t H (.int k ((a*2^b:Nat):Int)):=by
 have:=wA (G:=G) (P:=P) (H:=H) (dst:=dst) (ty:=ty) (pos:=pos) (after:=after) (g:=g) (T:=T) (U:=U) M d hx hy hk a b ha c
 rwa [Xw h]at this
theorem ez [hs:Und P T ds] [hd:Und P U (.int k')] (b:2^k'.bits=M) (hx:evo t x=some (.int k i)) (hk:k'.signed=false) (a:Nat) (ha:i=a):
 Ev G P ⟨dst,.convert T U x,ty,pos,after,g⟩ t H (.int k' ((a%M:Nat):Int)):=by subst b;exact Mt hx hk a ha
theorem dW [hs:Und P T ds] [hd:Und P U (.int k')] (b:2^k'.bits=M) (hx:evo t x=some (.int k i)) (hk:k'.signed=false) (a:Nat) (ha:i=a) (h:a<M):
 Ev G P ⟨dst,.convert T U x,ty,pos,after,g⟩ t H (.int k' ((a:Nat):Int)):=by
 have:=ez (G:=G) (P:=P) (H:=H) (dst:=dst) (ty:=ty) (pos:=pos) (after:=after) (g:=g) (T:=T) (U:=U) (k':=k') M b hx hk a ha
 rwa [Xw h]at this
end
theorem kJ {l:List Oper}{T E:TypeId}{x:Operand}{lo hi:Option Operand}{s:SV}{α:Type}{e:Enc α}{xs:List α}{g:Nat}{z:Value}(F:dD) (hx:evo t x=some s.val) [f:Sl F s e xs] [hT:Und P T (.slice E)] [hE:Inf P E e.sz g z] [hs:Sl H s e xs]
 (a b:Nat) (c:match lo with|none=>a=0|some o=>∃k j,evo t o=some (.int k j)∧j=(a:Int)) (d:match hi with|none=>b=xs.length|some o=>∃k j,evo t o=some (.int k j)∧j=(b:Int)) (h1:a≤b) (h2:b≤xs.length) (hd:iJ N dst=true)
 (hk:∀s':SV,Sl F s' e ((xs.take b).drop a)→O G P N ops l Q (put t dst s'.val) H):O G P N ops (⟨dst,.slice T x lo hi none,ty,pos,after,none⟩::l) Q t H:=
 L7 (D7 hx a b c d h1 h2) hd (hk _ (Sl.cut f h1 h2))
end
end
end Go.Sx
