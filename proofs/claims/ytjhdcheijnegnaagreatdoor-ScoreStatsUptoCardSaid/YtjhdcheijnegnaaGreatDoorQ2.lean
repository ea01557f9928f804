import Derived.Test.YtjhdcheijnegnaaGreatDoorQ1
import Derived.Still
import Derived.Laws.BytesString
set_option linter.all false
set_option maxHeartbeats 0
namespace Go.Sx
open Go
section
variable {C:Hp→cG}{E T:TypeId}{bb:Nat}{α:Type}{e:Enc α}{s:SV}{w:World}{xs ys:List α}{z:Value}
theorem ka {P:Program}(sz:Nat) (s:SV) (w:World):(Builtin.firstCells sz 0 s.val).run P w=.ok #[] w:=by
 cases h:s.a <;> simp[Builtin.firstCells,SV.val,h,loadCells,loadCellsFrom]
def qI (t:Tm):List (Nat×Operand)→Option (List (Nat×Value))
 | []=>some []
 |(i,x)::xs=>match evo t x,qI t xs with
  |some v,some vs=>some ((i,v)::vs)
  |_,_=>none
theorem nC {t:Tm}{ρ:Operand→Value}(hρ:zb t ρ):∀{xs:List (Nat×Operand)}{vs:List (Nat×Value)},qI t xs=some vs→xs.map (fun(i,x)=>(i,ρ x))=vs
 | [],_,h=>by cases h;rfl
 |(i,x)::xs,vs,h=>by
  simp only[qI]at h
  split at h
  ·rename_i v us h1 h2;cases h;rw[Xn,nC hρ h2];simp only[hρ x v h1]
  ·cases h
def Enc.parts {α:Type}(e:Enc α):Nat→List α→List (Nat×Value)
 |_, []=>[]
 |k,x::xs=>(k,e.v x)::e.parts (k+1) xs
theorem v7 (cs:List Value):∀(C:Array Value) (o k:Nat),(cs.zipIdx k).foldl (λcs (x:Value×Nat)=>cs.setIfInBounds (o+x.2) x.1) C=ej C (o+k) cs:=by
 induction cs with
 |nil=>intro C o k;rfl
 |cons c cs ih=>intro C o k;simp only[List.zipIdx_cons,List.foldl_cons,ej];rw[ih];rfl
theorem tC (e:Enc α):∀(xs:List α) (k:Nat) (C:Array Value),(k+xs.length)*e.sz≤C.size→Instr.fill (λi=>some (i*e.sz,e.sz)) C (e.parts k xs)=some (ej C (k*e.sz) (e.all xs)):=by
 intro xs
 induction xs with
 |nil=>intro k C _;rfl
 |cons x xs ih=>
  intro k C h;simp only[Yb]at h;have h2:k*e.sz+e.sz≤C.size:=by
   refine Xi ?_ h;rw[show k*e.sz+e.sz=(k+1)*e.sz from aK];exact Vc _ a8
  have h3:∀o,((e.f x).toArray.zipIdx.foldl (λcs (y:Value×Nat)=>cs.setIfInBounds (o+y.2) y.1) C)=ej C o (e.f x):=by
   intro o;rw[←Array.foldl_toList];have:=v7 (e.f x) C o 0
   simpa using this
  simp only[Enc.parts,Instr.fill,e.v_cells];rw[if_neg (by simp[e.len];exact h2)];have h4:=ih (k+1) (ej C (k*e.sz) (e.f x)) (by rw[er];exact Xi (Vc _ a8) h);have b:=h3 (k*e.sz);rw[b,h4,Enc.all_cons];congr 1;apply Q3;intro j;have hsz:(k+(xs.length+1))*e.sz=k*e.sz+e.sz+xs.length*e.sz:=by
   rw[Vg,Vg];omega
  have a:(k+1)*e.sz=k*e.sz+e.sz:=aK;rw[fy _ _ _ _ (by rw[er,Enc.all_length,a];omega),fy _ _ _ _ bC,fy _ _ _ _ (by rw[Ya,e.len,Enc.all_length];omega)];simp only[Ya,e.len,Enc.all_length,a]
  by_cases c1:k*e.sz+e.sz≤j∧j<k*e.sz+e.sz+xs.length*e.sz
  ·rw[if_pos c1,if_pos a8,Yu bC,e.len];congr 1;omega
  ·rw[if_neg c1]
   by_cases c2:k*e.sz≤j∧j<k*e.sz+e.sz
   ·rw[if_pos c2,if_pos a8,Yv bC]
   ·rw[if_neg c2,if_neg a8]
section
variable {G:cJ}{P:Program}{N:Nat}{Q:Post}{t:Tm}{H:cG}{dst:Option Tmp}{ty:TypeId}{pos:String}{after:Array Edge}{g:Option (Nat×Bool)}
theorem Sat.newRow (a:Sat G w H) (e:Enc α) (xs:List α) (C:Array Value) (E:TypeId) (n c:Nat) (b:n=xs.length) (hc:n≤c) (hs:C.size=c*e.sz) (f:∀(j:Nat) (v:Value),(e.all xs)[j]? =some v→C[j]? =some v):
 Sat G {w with heap:=w.heap.push (.cells C E)} (Row ⟨some ⟨w.heap.size,0,none⟩,n,c⟩ e xs::H):=
 (a.alloc _).cons λ_ d=>.inr ⟨w.heap.size,C,E,(0,0),rfl,b,hc,d,hs,.inl rfl,f⟩
theorem dt {n:Nat}{ps:List (Nat×Operand)}(e:Enc α) (xs:List α) [hT:Und P T (.slice E)] [hE:Inf P E e.sz bb z] (hp:qI t ps=some (e.parts 0 xs)) (h:n=xs.length) (hb:n*e.sz≤16777216):
 St G P ⟨dst,.buildSlice T n ps.toArray,ty,pos,after,g⟩ t H (λu k=>∃s:SV,u=s.val∧k=Row s e xs::H):=
 fun ρ hρ w hw=>by
  subst h;have h2:(ps.toArray.map fun(i,x)=>(i,ρ x)).toList=e.parts 0 xs:=by simp[nC hρ hp]
  have hr:∃C:Array Value,C.size=xs.length*e.sz∧(∀(j:Nat) (v:Value),(e.all xs)[j]? =some v→C[j]? =some v)∧(execOp ρ ⟨dst,.buildSlice T xs.length ps.toArray,ty,pos,after,g⟩).run P w=.ok (.value (.slice (some ⟨w.heap.size,0,none⟩) xs.length xs.length)) {w with heap:=w.heap.push (.cells C E)}:=by
   have a:¬(xs.length*e.sz > 2^24):=a8;obtain⟨Z,b⟩:∃Z,(if xs.length*e.sz=0 then #[]else z.cells:Array Value)=Z:=⟨_,rfl⟩;have f:=tC e xs 0 ((Array.range (xs.length*e.sz)).map (Z[· % Z.size]!)) ak;refine⟨ej ((Array.range (xs.length*e.sz)).map (Z[· % Z.size]!)) (0*e.sz) (e.all xs),?_,?_,?_⟩
   ·rw[er];simp
   ·intro j v hv;have hj:j<xs.length*e.sz:=by rw[←e.all_length];exact(Yk.1 hv).1
    rw[fy _ _ _ _ (by simp[Enc.all_length])];rw[if_pos (by rw[e.all_length];omega)]
    simpa using hv
   ·have hm:(ps.toArray.map fun(i,x)=>(i,ρ x)).toList=e.parts 0 xs:=h2;simp only[execOp,Instr.buildSlice,Sem.run_bind,cS (T:=T),Result.andThen_ok,dA (T:=E) (s:=e.sz),a,↓reduceIte,hm]
    by_cases h0:xs.length*e.sz=0
    ·rw[if_pos h0]at b⊢;subst b;simp only[Sem.run_bind,Sem.run_pure,Result.andThen_ok];rw[f];rfl
    ·rw[if_neg h0]at b⊢;subst b;simp only[Sem.run_bind,Sem.run_pure,Result.andThen_ok,gY (T:=E)];rw[f];rfl
  obtain⟨C,d,c,hr⟩:=hr;rw[hr];exact⟨_,hw.newRow e xs C E _ _ rfl (Xj _) d c,⟨some ⟨w.heap.size,0,none⟩,xs.length,xs.length⟩,rfl,rfl⟩
theorem Sat.nilRow (a:Sat G w H) (e:Enc α):Sat G w (Row SV.nil e []::H):=by
 obtain⟨b,L,hL,hl⟩:=a;exact⟨b,L,⟨[],L,rfl,.inl ⟨rfl,rfl,rfl⟩,hL⟩,hl⟩
theorem mc.split (h:mc H s e xs C) (a:Sat G w H):
 ∃L1 M L2,ju w (L1++(M++L2))∧Row s e xs M∧∀(B:Hp) M',B M'→Sep (C B) (L1++(M'++L2)):=by
 obtain⟨_,L,hL,hl⟩:=a;obtain⟨L1,M,L2,rfl,b,c⟩:=h.foc _ hL;exact⟨L1,M,L2,hl,b,c⟩
theorem ju.push {L1 M L2:mX}(h:ju w (L1++(M++L2))) (o:Obj):ju {w with heap:=w.heap.push o} (L1++([(w.heap.size,o)]++L2)):=by
 have a:(L1++L2).Sublist (L1++(M++L2)):=(List.Sublist.refl L1).append (List.sublist_append_right M L2);have d:((L1++L2).map (·.1)).Nodup:=(a.map _).nodup h.nodup;have c:∀x∈L1++L2,x.1<w.heap.size:=λx hx=>h.lt (a.subset hx);have b:(L1++([(w.heap.size,o)]++L2)).Perm ((w.heap.size,o)::(L1++L2)):=by
  simp
 refine⟨?_,?_⟩
 ·rw[(b.map _).nodup_iff,Xn,U3];refine⟨λhm=>?_,d⟩;obtain⟨x,hx,he⟩:=Xw.1 hm;have:=c x hx;simp only at he;omega
 ·intro x hx;rcases Xr.1 (b.mem_iff.1 hx)with rfl|hx
  ·simp
  ·have h1:=c x hx;simp only[Array.getElem?_push];rw[if_neg a8];exact h.at_ x (a.subset hx)
def za (P:Program) (sz:Nat) (v:Value) (m:Nat) (cs:List Value) (w:World):Prop:=
 (Builtin.lenOf v).run P w=.ok m w∧∀d,(Builtin.firstCells sz m v).run P {w with drawn:=d}=.ok cs.toArray {w with drawn:=d}
theorem oG {T2:TypeId}{d2:TypeDesc}{v:Value}{m sz:Nat}{cs:List Value} [hT:Und P T (.slice E)] [hT2:Und P T2 d2] [hE:Inf P E sz bb z] (Z:d2=.string∨∃e2,d2=.slice e2) (R:sz=e.sz) (N:z.cells.size=sz) [hf:mc H s e xs C] (l:Sat G w H) (hg:za P sz v m cs w) (a0:cs=e.all ys) (hm:m=ys.length) (hlim:(xs.length+ys.length)*bb≤140737488355328) (hlim2:xs.length+ys.length≤140737488355328):
 ∃(s':SV) (w':World),(Builtin.append_ #[T,T2] ty #[s.val,v]).run P w=.ok s'.val w'∧Sat G w' (C (Row s' e (xs++ys))):=by
 subst R a0 hm;obtain⟨x,J⟩:=hg;have p:=J w.drawn;obtain⟨L1,M,L2,hl,hM,hB⟩:=hf.split l;obtain⟨i,V,hi2,t,hi4⟩:=hE.out;have F:=e.all_one ys;have B:s.n=xs.length∧s.n≤s.c:=by
  rcases hM with⟨rfl,rfl,_⟩|⟨b,a,c,fz,_,h2,h3,_⟩
  ·exact⟨rfl,Xj _⟩
  ·exact⟨h2,h3⟩
 rcases Z with rfl|⟨e2,rfl⟩
 all_goals
  by_cases hroom:s.n+ys.length≤s.c
  ·
   rcases hM with⟨rfl,rfl,rfl⟩|⟨b,a,c,fz,h1,h2,h3,rfl,h5,h6,h7⟩
   ·obtain rfl:ys= []:=by
     simp[SV.nil]at hroom;exact hroom
    refine⟨SV.nil,w,?_,l.1,_,hB _ [] (.inl ⟨rfl,rfl,rfl⟩),aP⟩;simp only[Builtin.append_,SV.nil,SV.val];simp only[Sem.run_bind,Sem.run_pure,Result.andThen_ok,cS (T:=T),dA (T:=E) (s:=e.sz),Vv,Xb,Xc,cS (T:=T2),x,Xp,↓reduceIte,V1,Ur,Yc,Xj];have:=p;simp only[Yc]at this;rw[this];rfl
   ·have k:w.heap[b]? =some (.cells a c fz):=hl.at_ (b,.cells a c fz) ak;have K:s.n*e.sz+(e.all ys).length≤a.size:=by
     rw[e.all_length,h5,←Vg];exact Vc _ hroom
    have y:=ez (P:=P) (o:=s.n*e.sz) (e.all ys) 0 a w k (λj _ h=>h6.free j a8) a8 F;refine⟨⟨some ⟨b,0,none⟩,s.n+ys.length,s.c⟩,e7 w b (.cells (ej a (s.n*e.sz) (e.all ys)) c fz),?_,⟨l.1.os,l.1.tape,l.1.output⟩,_,hB _ [(b,.cells (ej a (s.n*e.sz) (e.all ys)) c fz)] (.inr ⟨b,_,c,fz,rfl,by simp[h2],hroom,rfl,by rw[er,h5],by rw[er];exact h6,?_⟩),?_⟩
    ·simp only[Builtin.append_,SV.val,h1];simp only[Sem.run_bind,Sem.run_pure,Result.andThen_ok,cS (T:=T),dA (T:=E) (s:=e.sz),Vv,Xb,Xc,cS (T:=T2),x,Xp,↓reduceIte,V1,hroom];rw[p];simp only[Result.andThen_ok,gu,Vf];simp only[Ur]at y;rw[y];rfl
    ·intro j u g;rw[fy _ _ _ _ K];rw[e.all_append]at g;have U:(e.all xs).length=s.n*e.sz:=by rw[e.all_length,h2]
     by_cases hj:j<s.n*e.sz
     ·rw[if_neg a8];rw[Yv a8]at g;exact h7 j u g
     ·rw[Yu a8,U]at g;rw[if_pos ⟨a8,by have:=(Yk.1 g).1;omega⟩];exact g
    ·have:=ju.change (w':=e7 w b (.cells (ej a (s.n*e.sz) (e.all ys)) c fz)) (L1:=L1) (L2:=L2) (b:=b) (o:=.cells a c fz) (o':=.cells (ej a (s.n*e.sz) (e.all ys)) c fz) aP (fB k) (λi hi _=>eL hi)
     simpa using this
  ·
   have X:s.c<s.n+ys.length:=a8;have n:¬((s.n+ys.length:Nat):Int) > IntKind.i64.max:=by
    simp only[IntKind.max,IntKind.signed,IntKind.bits];simp;omega
   have a1:¬(Builtin.nextslicecap (s.n+ys.length) s.c*bb > 2^48):=by
    have:=growslice_fits (bytes:=bb) X (by rw[B.1];exact hlim);omega
   have r:∀d,(Builtin.firstCells e.sz s.n s.val).run P {w with drawn:=d}=.ok (e.all xs).toArray {w with drawn:=d}:=by
    intro d;rcases hM with⟨rfl,rfl,rfl⟩|⟨b,a,c,fz,h1,h2,h3,rfl,h5,h6,h7⟩
    ·rfl
    ·have k:({w with drawn:=d}:World).heap[b]? =some (.cells a c fz):=hl.at_ (b,.cells a c fz) ak;have:=dP (P:=P) (o:=0) k (e.all xs) (λj v hv=>by rw[Vf];exact h7 j v hv);rw[e.all_length,←h2]at this;simp only[Builtin.firstCells,SV.val,h1,this]
   let q:Question:=.appendCap (s.n+ys.length) s.c E
   let nc:Nat:=q.cut (w.tape w.drawn q)
   have S:s.n+ys.length≤nc:=by
    show s.n+ys.length≤(s.n+ys.length)+_;omega
   have L:(Builtin.zeroCells z.cells (nc-(s.n+ys.length))).size=(nc-(s.n+ys.length))*e.sz:=by
    simp[Builtin.zeroCells,N]
   refine⟨⟨some ⟨w.heap.size,0,none⟩,s.n+ys.length,nc⟩,{w with drawn:=w.drawn+1,heap:=w.heap.push (.cells ((e.all xs).toArray++(e.all ys).toArray++Builtin.zeroCells z.cells (nc-(s.n+ys.length))) E)},?_,⟨l.1.os,l.1.tape,l.1.output⟩,_,
    hB _ [(w.heap.size,.cells ((e.all xs).toArray++(e.all ys).toArray++Builtin.zeroCells z.cells (nc-(s.n+ys.length))) E)] (.inr ⟨w.heap.size,_,E,(0,0),rfl,by simp[B.1],S,rfl,?_,.inl rfl,?_⟩),?_⟩
   ·have hq:q.forced=false:=rfl;have f:∀w:World,(typeInfo E).run P w=.ok i w:=by intro w;simp[typeInfo,V]
    have A:=r (w.drawn+1);have Y:=J (w.drawn+1);have c1:¬(((s.n+ys.length:Nat):Int) > IntKind.i64.max∧(false=true∨i.bytes=0)):=λh=>n h.1;simp only[Builtin.append_,SV.val]at A⊢;simp only[Sem.run_bind,Sem.run_pure,Result.andThen_ok,cS (T:=T),dA (T:=E) (s:=e.sz),Vv,Xb,Xc,cS (T:=T2),x,Xp,↓reduceIte,V1,hroom,f,t];rw[if_neg (by rw[←t];exact λh=>n h.1)];simp only[Sem.run_bind,f,t,Result.andThen_ok];rw[if_neg a1];simp only[Sem.run_bind,Sem.run_pure,run_choose];rw[show(Question.appendCap (s.n+ys.length) s.c E).forced=false from rfl];simp only[Xp,↓reduceIte,Result.andThen_ok,f,run_askRoom,A,Y,gY (T:=E)];rfl
   ·rw[Array.size_append,Array.size_append,L];simp only[List.size_toArray,e.all_length,←Vg];congr 1;omega
   ·intro j u g;rw[e.all_append]at g;have hj:=(Yk.1 g).1;rw[Uw (by simp at hj⊢;exact hj)]
    simpa using g
   ·have:=hl.push (.cells ((e.all xs).toArray++(e.all ys).toArray++Builtin.zeroCells z.cells (nc-(s.n+ys.length))) E);exact⟨this.nodup,this.at_⟩
theorem fw {T2 E2:TypeId}{x y:Operand}{s2:SV}{sz:Nat}(hx:evo t x=some s.val) (hy:evo t y=some s2.val) [hT:Und P T (.slice E)] [hT2:Und P T2 (.slice E2)] [hE:Inf P E sz bb z] [hf:mc H s e xs C] [hs:Sl H s2 e ys] (i:sz=e.sz) (f:z.cells.size=sz) (hlim:(xs.length+ys.length)*bb≤140737488355328) (hlim2:xs.length+ys.length≤140737488355328):
 St G P ⟨dst,.call ⟨.builtin .append, #[x,y], #[T,T2]⟩,ty,pos,after,g⟩ t H (λu m=>∃a:SV,u=a.val∧m=C (Row a e (xs++ys))):=
 fun ρ hρ w hw=>by
  subst i;have k:za P e.sz s2.val ys.length (e.all ys) w:=by
   obtain⟨h1,_,h3⟩:=hs.get hw;refine⟨by simp[Builtin.lenOf,SV.val,h1],λd=>?_⟩;rcases h3 with⟨rfl,_⟩|⟨b,c,C0,E0,fz,h4,l,_,h6⟩
   ·rw[Yc,ka,gP]
   ·have:=dP (P:=P) (w:={w with drawn:=d}) (o:=c) l (e.all ys) h6;rw[e.all_length]at this;simp only[Builtin.firstCells,SV.val,h4,this]
  obtain⟨a,j,hr,h⟩:=oG (ty:=ty) (T:=T) (T2:=T2) (d2:=.slice E2) (P:=P) (E:=E) (.inr ⟨E2,rfl⟩) rfl f (hf:=hf) hw k rfl rfl hlim hlim2;have:(execOp ρ ⟨dst,.call ⟨.builtin .append, #[x,y], #[T,T2]⟩,ty,pos,after,g⟩).run P w=.ok (.value a.val) j:=by
   simp only[execOp,resolve,invoke,builtin,Uh,Xn,Ul,hρ _ _ hx,hρ _ _ hy,Sem.run_bind,Sem.run_pure,Result.andThen_ok,hr]
  rw[this];exact⟨_,h,a,rfl,rfl⟩
end
end
section
variable {K':Act→cG→Prop}{Q':Exit→Act→World→Prop}{R:Value→cG→Prop}{a:Act}{after:Array Edge}{b want:Bool}{d fuel i j:Nat}{dst:Option Tmp}{l:List Oper}{listed:Array Bool}{o oi:Oper}{op:Op}{pos:String}{ty:TypeId}{v:Value}
section
variable (G:cJ) (P:Program) (ops:Array Oper)
def ln (o:Oper) (a:Act) (K:Act→cG→Prop):Result Next→Prop
 | .ok (.value v) w'=>∃H',Sat G w' H'∧K (a.put o.dst v) H'
 | .ok .skip w'=>∃H',Sat G w' H'∧K (a.put o.dst undef) H'
 | .ok (.enter f args) w'=>Calls P f args w' λe w''=>match e with
  | .returned v=>∃H',Sat G w'' H'∧K (a.put o.dst v) H'
  |_=>False
 |_=>False
def OpK (i:Nat) (K:Act→cG→Prop) (a:Act) (H:cG):Prop:=
 match ops[i]? with
 |none=>K a H
 |some o=>if Region.wanted o (yielded ops a.tmps)then ∀w,Sat G w H→ln G P o a K ((execOp a.eval o).run P w)else K (a.put o.dst undef) H
def qg (loud:Nat→Bool) (i:Nat) (listed:Array Bool):Prop:=
 ∀(j:Nat) (oj:Oper),ops[j]? =some oj→loud j=true→listed.getD j false=true→∀e∈oj.after,Region.binds .any e=true→e.on≠i
def nL (loud:Nat→Bool) (F:Nat→cG→Prop) (K:Act→cG→Prop):Nat→Array Bool→Act→cG→Prop
 | 0,listed,a,H=>(∀i,qg ops loud i listed→F i H)∧Region.ready .any ops listed= []∧K a H
 |fuel+1,listed,a,H=>(∀i,qg ops loud i listed→F i H)∧(Region.ready .any ops listed= []→K a H)∧
  ∀i∈Region.ready .any ops listed,OpK G P ops i (nL loud F K fuel (listed.setIfInBounds i true)) a H
def H7 (o:Oper) (a:Act) (H:cG) (v:Value):Prop:=
 ∀w,Sat G w H→match (execOp a.eval o).run P w with
  | .ok (.value u) w'=>u=v∧Sat G w' H
  | .ok .skip w'=>undef=v∧Sat G w' H
  | .ok (.enter f args) w'=>Calls P f args w' λe w''=>match e with
   | .returned u=>u=v∧Sat G w'' H
   |_=>False
  |_=>False
def mV (F:cG→Prop) (o:Oper) (a:Act) (v:Value):Prop:=
 (Region.wanted o (yielded ops a.tmps)=true∧∀H,F H→H7 G P o a H v)∨(Region.wanted o (yielded ops a.tmps)=false∧v=undef)
end
section
variable {G:cJ}{P:Program}{ops:Array Oper}{loud:Nat→Bool}{F:Nat→cG→Prop}{K:Act→cG→Prop}
theorem ln.mono {K:Act→cG→Prop}(h:∀a H,K a H→K' a H){r:Result Next}(hr:ln G P o a K r):ln G P o a K' r:=by
 cases r with
 |ok n w'=>
  cases n <;> simp only[ln]at hr⊢
  case value v=>obtain⟨b,h1,h2⟩:=hr;exact⟨b,h1,h _ _ h2⟩
  case skip=>obtain⟨b,h1,h2⟩:=hr;exact⟨b,h1,h _ _ h2⟩
  case enter f args=>
   exact hr.mono λe w'' he=>by
    cases e with
    |returned v=>obtain⟨b,h1,h2⟩:=he;exact⟨b,h1,h _ _ h2⟩
    |_=>exact he
 |halt x w'=>simp only[ln]at hr
theorem OpK.mono {H:cG}{K:Act→cG→Prop}(h:∀a H,K a H→K' a H) (hh:OpK G P ops i K a H):OpK G P ops i K' a H:=by
 unfold OpK at*
 split
 ·exact h _ _ (by simpa [*] using hh)
 ·rename_i o d;simp only[d]at hh
  split
  ·rename_i b;simp only[b,if_true]at hh;exact λw c=>(hh w c).mono h
  ·rename_i b;simp only[b]at hh;exact h _ _ hh
theorem OpK.wpOp {H:cG}{w:World}{K':Act→World→Prop}(d:Sat G w H) (h:∀a w' c,Sat G w' c→K a c→K' a w') (hh:OpK G P ops i K a H):wpOp P ops Q' i K' a w:=by
 unfold OpK at hh;unfold Go.wpOp
 split
 ·rename_i g;simp only[g]at hh;exact h _ _ _ d hh
 ·rename_i o g;simp only[g]at hh
  split
  ·rename_i b;simp only[b,if_true]at hh;have h3:=hh w d;refine .inl ?_;unfold Oper.wp;generalize (execOp a.eval o).run P w=r at*;cases r with
   |ok n w'=>
    cases n <;> simp only[ln]at h3 <;> simp only[Oper.upon]
    case value v=>obtain⟨c,h1,h2⟩:=h3;exact h _ _ _ h1 h2
    case skip=>obtain⟨c,h1,h2⟩:=h3;exact h _ _ _ h1 h2
    case enter f args=>
     exact h3.mono λe w'' he=>by
      cases e with
      |returned v=>obtain⟨c,h1,h2⟩:=he;exact h _ _ _ h1 h2
      |_=>exact he.elim
   |halt x w'=>simp only[ln]at h3
  ·rename_i b;simp only[b]at hh;exact h _ _ _ d hh
theorem u7 (c:∀a w H,Sat G w H→K a H→Q' .normal a w):∀(fuel:Nat) (listed:Array Bool) (a:Act) (w:World) (H:cG),Sat G w H→
 nL G P ops loud F K fuel listed a H→wpAny P .any ops Q' fuel listed a w
 | 0,_,_,_,_,hw,h=>⟨h.2.1,c _ _ _ hw h.2.2⟩
 |fuel+1,_,_,_,_,hw,h=>⟨λh0=>c _ _ _ hw (h.2.1 h0),λi hi=>(h.2.2 i hi).wpOp hw (λf d g b e=>u7 c fuel _ f d g b e)⟩
theorem qg.of_set {k:Nat}(hl:loud i=false) (h:qg ops loud k listed):qg ops loud k (listed.setIfInBounds i true):=by
 intro j c hj b a
 by_cases hij:i=j
 ·subst hij;rw[hl]at b;cases b
 ·rw[getD_set_ne false hij]at a;exact h j c hj b a
theorem mV.opK {H:cG}{F:cG→Prop}(hi:ops[i]? =some o) (hy:mV G P ops F o a v) (d:F H) (h:K (a.put o.dst v) H):OpK G P ops i K a H:=by
 unfold Go.Sx.OpK;simp only[hi];rcases hy with⟨b,hv⟩|⟨b,rfl⟩
 ·simp only[b,if_true];intro w c;have h3:=hv H d w c;generalize (execOp a.eval o).run P w=r at*;cases r with
  |ok n w'=>
   cases n <;> simp only at h3
   case value u=>obtain⟨rfl,h4⟩:=h3;exact⟨H,h4,h⟩
   case skip=>obtain⟨rfl,h4⟩:=h3;exact⟨H,h4,h⟩
   case enter f args=>
    exact h3.mono λe w'' he=>by
     cases e with
     |returned u=>obtain⟨rfl,h4⟩:=he;exact⟨H,h4,h⟩
     |_=>exact he
  |halt x w'=>exact h3.elim
 ·simp only[b,Xp,if_false];exact h
theorem OpK.put {oj:Oper}{F:cG→Prop}(hj:ops[j]? =some oj) (hap:oi.apart ops oj=true) (hsi:∀cs b,oi.op≠ .select cs b) (hsj:∀cs b,oj.op≠ .select cs b){K:Act→cG→Prop}{H:cG}(hy:mV G P ops F oi a v) (h:OpK G P ops j K (a.put oi.dst v) H):
 OpK G P ops j (λa' H'=>mV G P ops F oi a' v∧K (a'.put oi.dst v) H') a H:=by
 obtain⟨h1,h2,h3⟩:=Oper.apart_spec hap;have keep:∀(a:Act),mV G P ops F oi a v→∀u,mV G P ops F oi (a.put oj.dst u) v:=λa hy u=>by
  unfold mV H7 at*;rw[execOp_put oi hsi a oj.dst u h3,wanted_put oi a oj.dst u h3];exact hy
 unfold OpK at*;simp only[hj]at*;rw[wanted_put oj a oi.dst v h1]at h
 split
 ·rename_i hw;simp only[hw,if_true]at h;intro w hs;have h4:=h w hs;rw[execOp_put oj hsj a oi.dst v h1]at h4;generalize (execOp a.eval oj).run P w=r at*;cases r with
  |ok n w'=>
   cases n <;> simp only[ln]at h4⊢
   case value u=>obtain⟨H',q1,q2⟩:=h4;exact⟨H',q1,keep a hy u,by rw[←Act.put_comm a v u h2];exact q2⟩
   case skip=>obtain⟨H',q1,q2⟩:=h4;exact⟨H',q1,keep a hy _,by rw[←Act.put_comm a v undef h2];exact q2⟩
   case enter f args=>
    exact h4.mono λe w'' he=>by
     cases e with
     |returned u=>obtain⟨H',q1,q2⟩:=he;exact⟨H',q1,keep a hy u,by rw[←Act.put_comm a v u h2];exact q2⟩
     |_=>exact he
  |halt x w'=>simp only[ln]at h4
 ·rename_i hw;simp only[hw]at h;exact⟨keep a hy _,by rw[←Act.put_comm a v undef h2];exact h⟩
theorem nL.first (hi:ops[i]? =some oi) (hl:loud i=false) (hsel:∀(j:Nat) (o:Oper) cs b,ops[j]? =some o→o.op≠ .select cs b):
 ∀(fuel:Nat) (listed:Array Bool) (a:Act) (H:cG),
  (∀j oj,ops[j]? =some oj→j≠i→listed.getD j true=false→(∀e∈oj.after,Region.binds .any e=true→e.on≠i)→oi.apart ops oj=true)→
  (∀j oj,ops[j]? =some oj→listed.getD j false=true→∀e∈oj.after,Region.binds .any e=true→e.on≠i)→
  i∈Region.ready .any ops listed→mV G P ops (F i) oi a v→
  nL G P ops loud F K fuel (listed.setIfInBounds i true) (a.put oi.dst v) H→nL G P ops loud F K (fuel+1) listed a H:=by
 intro fuel
 induction fuel with
 |zero=>
  intro listed a H _ hw hr hy h;have hF:F i H:=h.1 i (qg.of_set hl λj oj hj _ hlj=>hw j oj hj hlj);refine⟨λk hk=>h.1 k (hk.of_set hl),λh0=>(bH),λj hj=>?_⟩
  by_cases hji:j=i
  ·subst hji;exact hy.opK hi hF h
  ·have:=ready_mono hj hji;rw[h.2.1]at this;cases this
 |succ fuel ih=>
  intro listed a H hfree hw hr hy h;have hF:F i H:=h.1 i (qg.of_set hl λj oj hj _ hlj=>hw j oj hj hlj);refine⟨λk hk=>h.1 k (hk.of_set hl),λh0=>(bH),λj hj=>?_⟩
  by_cases hji:j=i
  ·subst hji;exact hy.opK hi hF h
  ·have h1:=h.2.2 j (ready_mono hj hji);obtain⟨hjun,oj,hoj,hall⟩:=mem_ready.1 hj;have hnot:∀e∈oj.after,Region.binds .any e=true→e.on≠i:=λe he hb heq=>by
    have h1:=hall e he hb;have h0:=(mem_ready.1 hr).1;rw[heq]at h1;rcases U9 i listed.size with h'|h'
    ·simp[h']at h0 h1;rw[h0]at h1;cases h1
    ·simp[Array.getElem?_eq_none h']at h1
   have h2:=OpK.put hoj (hfree j oj hoj hji hjun hnot) (λcs b=>hsel i oi cs b hi) (λcs b=>hsel j oj cs b hoj) hy h1;have hfree':∀k ok,ops[k]? =some ok→k≠i→(listed.setIfInBounds j true).getD k true=false→
    (∀e∈ok.after,Region.binds .any e=true→e.on≠i)→oi.apart ops ok=true:=λk ok hk hki hun hno=>by
    refine hfree k ok hk hki ?_ hno
    by_cases hjk:j=k
    ·subst hjk;exact hjun
    ·rw[getD_set_ne true hjk]at hun;exact hun
   have hw':∀k ok,ops[k]? =some ok→(listed.setIfInBounds j true).getD k false=true→∀e∈ok.after,Region.binds .any e=true→e.on≠i:=λk ok hk hlk=>by
    by_cases hjk:j=k
    ·subst hjk;obtain rfl:ok=oj:=Xo (hk.symm.trans hoj);exact hnot
    ·rw[getD_set_ne false hjk]at hlk;exact hw k ok hk hlk
   refine OpK.mono (λa' H' h3=>ih (listed.setIfInBounds j true) a' H' hfree' hw' (ready_mono hr (Ne.symm hji)) h3.1 ?_) h2;rw[Array.setIfInBounds_comm _ _ hji];exact h3.2
structure An (G:cJ) (P:Program) (N:Nat) (ops:Array Oper) (loud:Nat→Bool) (F:Nat→cG→Prop) (Q:Post) (fuel:Nat) (listed:Array Bool) (t:Tm) (H:cG):Prop where
 go:∀a,Fr N t a→nL G P ops loud F (λa H=>∃t,Fr N t a∧Q .normal t H) fuel listed a H
def BF (ops:Array Oper) (listed:Array Bool) (i:Nat):Bool:=
 (List.range ops.size).all λj=>!listed.getD j false ||match ops[j]? with
   |some oj=>oj.after.all λe=>!(Region.binds .any e&&e.on==i)
   |none=>true
theorem wM (h:BF ops listed i=true):∀j a,ops[j]? =some a→listed.getD j false=true→∀e∈a.after,Region.binds .any e=true→e.on≠i:=by
 intro j a hj hl e he d c;have b:j<ops.size:=(Vh.1 hj).1;have h1:=V5.1 h j (List.mem_range.2 b);simp only[hl,S3,Bool.false_or,hj]at h1;have h2:=Array.all_eq_true'.1 h1 e he;simp[d,c]at h2
variable {N:Nat}{Q:Post}{t:Tm}{H:cG}
theorem Kh {c:Nat}(hm:P.follows .mixedOrders=true) (loud:Nat→Bool) (F:Nat→cG→Prop) (h:An G P N l.toArray loud F Q l.length (Array.replicate l.length false) t H):W G P N (.region c l.toArray true) Q t H:=
 ⟨λa w ha b=>wp_region_any hm (u7 (G:=G) (loud:=loud) (F:=F) (K:=λa H=>∃t,Fr N t a∧Q .normal t H) (λa w H b ⟨t,h1,h2⟩=>⟨t,H,h1,b,h2⟩) _ _ _ _ H (b.same rfl ⟨b.1.os,b.1.tape,b.1.output⟩) (by simpa using h.go a ha))⟩
theorem GR (hr:(Region.ready .any ops listed).isEmpty=true) (a:∀i,qg ops loud i listed→F i H) (h:Q .normal t H):An G P N ops loud F Q 0 listed t H:=
 ⟨λ_ ha=>⟨a,by simpa using hr,t,ha,h⟩⟩
def Qv (G:cJ) (P:Program) (F:cG→Prop) (o:Oper) (t:Tm) (v:Value):Prop:=∀H,F H→St G P o t H (λu H'=>u=v∧H'=H)
theorem cU {F:cG→Prop}(h:∀H,F H→Ev G P o t H v):Qv G P F o t v:=λH a=>(h H a).st
theorem Qv.quiet {F:cG→Prop}(ha:Fr N t a) (h:Qv G P F o t v){H:cG}(g:F H):H7 G P o a H v:=by
 intro w d;have h1:=h H g a.eval ha.agree w d;generalize (execOp a.eval o).run P w=r at*;cases r with
 |ok n w'=>
  cases n <;> simp only[kY]at h1⊢
  case value u=>obtain⟨c,b,rfl,rfl⟩:=h1;exact⟨rfl,b⟩
  case skip=>obtain⟨c,b,rfl,rfl⟩:=h1;exact⟨rfl,b⟩
  case enter f args=>
   exact h1.mono λe w'' he=>by
    cases e with
    |returned u=>obtain⟨c,b,rfl,rfl⟩:=he;exact⟨rfl,b⟩
    |_=>exact he
 |halt x w'=>simp only[kY]at h1
def jF (ops:Array Oper) (listed:Array Bool) (i:Nat):Bool:=
 Region.noSelect ops&&Region.free .any ops listed i&&BF ops listed i&&(Region.ready .any ops listed).contains i
theorem q9 {loud:Nat→Bool}{F:Nat→cG→Prop}(hi:ops[i]? =some o) (hl:loud i=false) (b:jF ops listed i=true) (hd:fC N o.dst=true) (hy:∀a,Fr N t a→mV G P ops (F i) o a v) (h:An G P N ops loud F Q fuel (listed.setIfInBounds i true) (put t o.dst v) H):An G P N ops loud F Q (fuel+1) listed t H:=by
 simp only[jF,Xu]at b;obtain⟨⟨⟨h1,h2⟩,h3⟩,h4⟩:=b;exact⟨λa ha=>nL.first hi hl (Region.noSelect_spec h1) fuel listed a H (Region.free_spec hi h2) (wM h3) (by simpa using h4) (hy a ha) (h.go _ (ha.put hd v))⟩
theorem cO {loud:Nat→Bool}{F:Nat→cG→Prop}(i:Nat) (hi:ops[i]? =some ⟨dst,op,ty,pos,after,none⟩) (hl:loud i=false) (b:jF ops listed i=true) (hd:fC N dst=true) (a:Qv G P (F i) ⟨dst,op,ty,pos,after,none⟩ t v) (h:An G P N ops loud F Q fuel (listed.setIfInBounds i true) (put t dst v) H):An G P N ops loud F Q (fuel+1) listed t H:=
 q9 hi hl b hd (λ_ ha=>.inl ⟨bn,λ_ c=>a.quiet ha c⟩) h
theorem fg {loud:Nat→Bool}{F:Nat→cG→Prop}(i:Nat) (hi:ops[i]? =some ⟨dst,op,ty,pos,after,some (j,want)⟩) (hj:(ops[j]?).bind (·.dst)=some d) (hv:look t d=some (.bool want)) (hl:loud i=false) (b:jF ops listed i=true) (hd:fC N dst=true) (a:Qv G P (F i) ⟨dst,op,ty,pos,after,some (j,want)⟩ t v) (h:An G P N ops loud F Q fuel (listed.setIfInBounds i true) (put t dst v) H):An G P N ops loud F Q (fuel+1) listed t H:=
 q9 hi hl b hd (λ_ ha=>.inl ⟨cz,λ_ c=>a.quiet ha c⟩) h
theorem MH {loud:Nat→Bool}{F:Nat→cG→Prop}(i:Nat) (hi:ops[i]? =some ⟨dst,op,ty,pos,after,some (j,want)⟩) (hj:(ops[j]?).bind (·.dst)=some d) (hv:look t d=some (.bool !want)) (hl:loud i=false) (a:jF ops listed i=true) (hd:fC N dst=true) (h:An G P N ops loud F Q fuel (listed.setIfInBounds i true) (put t dst undef) H):An G P N ops loud F Q (fuel+1) listed t H:=
 q9 hi hl a hd (λ_ ha=>.inr ⟨cz,rfl⟩) h
theorem fU {loud:Nat→Bool}{F:Nat→cG→Prop}(i:Nat) (hi:ops[i]? =some ⟨dst,op,ty,pos,after,none⟩) (hl:loud i=false) (c:jF ops listed i=true) (hd:fC N dst=true) (a:Qv G P (F i) ⟨dst,op,ty,pos,after,none⟩ t (.bool b)) (h1:b=true→An G P N ops loud F Q fuel (listed.setIfInBounds i true) (put t dst (.bool true)) H) (h2:b=false→An G P N ops loud F Q fuel (listed.setIfInBounds i true) (put t dst (.bool false)) H):An G P N ops loud F Q (fuel+1) listed t H:=
 cO i hi hl c hd a bQ
theorem jR {loud:Nat→Bool}{F:Nat→cG→Prop}(i:Nat) (hi:ops[i]? =some ⟨dst,op,ty,pos,after,none⟩) (hr:Region.ready .any ops listed= [i]) (hd:fC N dst=true) (k:∀i,qg ops loud i listed→F i H) (hs:St G P ⟨dst,op,ty,pos,after,none⟩ t H R) (h:∀v b,R v b→An G P N ops loud F Q fuel (listed.setIfInBounds i true) (put t dst v) b):An G P N ops loud F Q (fuel+1) listed t H:=
 ⟨λa ha=>⟨k,λh0=>(bH),λj hj=>by
  rw[hr]at hj;obtain rfl:j=i:=by simpa using hj
  unfold OpK;simp only[hi];rw[if_pos bn];intro w g;have h1:=hs a.eval ha.agree w g;generalize (execOp a.eval _).run P w=r at*;cases r with
  |ok n w'=>
   cases n <;> simp only[kY]at h1 <;> simp only[ln]
   case value u=>obtain⟨b,d,c⟩:=h1;exact⟨b,d,(h u b c).go _ (ha.put hd u)⟩
   case skip=>obtain⟨b,d,c⟩:=h1;exact⟨b,d,(h _ b c).go _ (ha.put hd _)⟩
   case enter f args=>
    exact h1.mono λe w'' he=>by
     cases e with
     |returned u=>obtain⟨b,d,c⟩:=he;exact⟨b,d,(h u b c).go _ (ha.put hd u)⟩
     |_=>exact he
  |halt x w'=>simp only[kY]at h1⟩⟩
theorem jL {loud:Nat→Bool}{F:Nat→cG→Prop}{c:Option Tmp}{s:Op}{l:TypeId}{g:String}{d:Array Edge}{R2:Value→cG→Prop}(i j:Nat) (hi:ops[i]? =some ⟨dst,op,ty,pos,after,none⟩) (hj:ops[j]? =some ⟨c,s,l,g,d,none⟩) (hr:Region.ready .any ops listed= [i,j]) (hd:fC N dst=true) (A:fC N c=true) (C:∀i,qg ops loud i listed→F i H) (hs:St G P ⟨dst,op,ty,pos,after,none⟩ t H R) (z:St G P ⟨c,s,l,g,d,none⟩ t H R2) (h:∀v b,R v b→An G P N ops loud F Q fuel (listed.setIfInBounds i true) (put t dst v) b) (h2:∀v b,R2 v b→An G P N ops loud F Q fuel (listed.setIfInBounds j true) (put t c v) b):An G P N ops loud F Q (fuel+1) listed t H:=
 ⟨λa ha=>⟨C,λh0=>(bH),λk hk=>by
  rw[hr]at hk;have y:∀(m:Nat) (dst:Option Tmp) (op:Op) (ty:TypeId) (pos:String) (after:Array Edge) (R:Value→cG→Prop),ops[m]? =some ⟨dst,op,ty,pos,after,none⟩→fC N dst=true→St G P ⟨dst,op,ty,pos,after,none⟩ t H R→(∀v b,R v b→An G P N ops loud F Q fuel (listed.setIfInBounds m true) (put t dst v) b)→
   OpK G P ops m (nL G P ops loud F (λa H=>∃t,Fr N t a∧Q .normal t H) fuel (listed.setIfInBounds m true)) a H:=by
   intro m dst op ty pos after R hi hd hs h;unfold OpK;simp only[hi];rw[if_pos bn];intro w B;have h1:=hs a.eval ha.agree w B;generalize (execOp a.eval _).run P w=r at*;cases r with
   |ok n w'=>
    cases n <;> simp only[kY]at h1 <;> simp only[ln]
    case value u=>obtain⟨b,q,p⟩:=h1;exact⟨b,q,(h u b p).go _ (ha.put hd u)⟩
    case skip=>obtain⟨b,q,p⟩:=h1;exact⟨b,q,(h _ b p).go _ (ha.put hd _)⟩
    case enter f args=>
     exact h1.mono λe w'' he=>by
      cases e with
      |returned u=>obtain⟨b,q,p⟩:=he;exact⟨b,q,(h u b p).go _ (ha.put hd u)⟩
      |_=>exact he
   |halt x w'=>simp only[kY]at h1
  rcases Xr.1 hk with rfl|hk
  ·exact y _ _ _ _ _ _ _ hi hd hs h
  ·obtain rfl:k=j:=by simpa using hk
   exact y _ _ _ _ _ _ _ hj A z h2⟩⟩
abbrev ph:Nat→Bool:=λ_=>false
abbrev at_ (H:cG):Nat→cG→Prop:=λ_ H'=>H'=H
theorem df {H:cG}(h:Ev G P o t H v):Qv G P (λa=>a=H) o t v:=λ_ e=>by rw[e];exact h.st
theorem gi {H:cG}{f:FuncId}{xs:List Operand}{ats:Array TypeId}{g:Option (Nat×Bool)}{vs:List Value}(hx:oP t xs=some vs) (hc:SC G P f vs H (λu H'=>u=v∧H'=H)):
 Qv G P (λH'=>H'=H) ⟨dst,.call ⟨.value (.func f),xs.toArray,ats⟩,ty,pos,after,g⟩ t v:=λ_ e=>by rw[e];exact dy hx hc
theorem LD (hj:(ops[j]?).bind (·.dst)=some d) (hv:look t d=some (.bool want)) (hd:fC N dst=true) (h:St G P ⟨dst,op,ty,pos,after,some (j,want)⟩ t H R) (hk:∀v H',R v H'→O G P N ops l Q (put t dst v) H'):O G P N ops (⟨dst,op,ty,pos,after,some (j,want)⟩::l) Q t H:=
 td hj hv (λ_=>h) hd (λ_=>hk) (λh=>absurd rfl h)
theorem rI (hj:(ops[j]?).bind (·.dst)=some d) (hv:look t d=some (.bool want)) (hd:fC N dst=true) (h:Ev G P ⟨dst,op,ty,pos,after,some (j,want)⟩ t H v) (hk:O G P N ops l Q (put t dst v) H):O G P N ops (⟨dst,op,ty,pos,after,some (j,want)⟩::l) Q t H:=
 LD hj hv hd h.st (λ_ _ ⟨e1,e2⟩=>by rw[e1,e2];exact hk)
theorem Ff (hj:(ops[j]?).bind (·.dst)=some d) (hv:look t d=some (.bool !want)) (hd:fC N dst=true) (hk:O G P N ops l Q (put t dst undef) H):O G P N ops (⟨dst,op,ty,pos,after,some (j,want)⟩::l) Q t H:=
 td (R:=λ_ _=>False) hj hv (λh=>absurd h (by cases want <;> simp)) hd (λh=>absurd h (by cases want <;> simp)) (λ_=>hk)
theorem Bc (h:Ev G P ⟨dst,op,ty,pos,after,none⟩ t H (.bool b)) (hd:fC N dst=true) (h1:b=true→O G P N ops l Q (put t dst (.bool true)) H) (h2:b=false→O G P N ops l Q (put t dst (.bool false)) H):O G P N ops (⟨dst,op,ty,pos,after,none⟩::l) Q t H:=
 Fh h hd bQ
theorem zL (hj:(ops[j]?).bind (·.dst)=some d) (hv:look t d=some (.bool want)) (h:Ev G P ⟨dst,op,ty,pos,after,some (j,want)⟩ t H (.bool b)) (hd:fC N dst=true) (h1:b=true→O G P N ops l Q (put t dst (.bool true)) H) (h2:b=false→O G P N ops l Q (put t dst (.bool false)) H):O G P N ops (⟨dst,op,ty,pos,after,some (j,want)⟩::l) Q t H:=
 rI hj hv hd h bQ
end
end
section
variable {E:TypeId}{bb:Nat}{s:SV}{x:Operand}{xs:List Nat}{z:Value}{α:Type}
section
variable {G:cJ}{P:Program}{N:Nat}{Q:Post}{t:Tm}{H:cG}{dst:Option Tmp}{ty:TypeId}{pos:String}{after:Array Edge}{g:Option (Nat×Bool)}
def cF (s:ByteArray):List Nat:=s.data.toList.map (·.toNat)
theorem cI (s:ByteArray):(cF s).length=s.size:=by simp[cF]
theorem pM {w:World}(s:ByteArray):za P eB.sz (.string s) (cF s).length (eB.all (cF s)) w:=by
 refine⟨by simp[Builtin.lenOf,cI],λd=>?_⟩;simp only[Builtin.firstCells,Sem.run_pure,cI,ByteArray.extract_zero_size];congr 1;apply Array.ext';simp only[Enc.all,cF,eB,List.flatMap_map,Array.toList_map]
 induction s.data.toList with
 |nil=>rfl
 |cons x xs ih=>simp[ih]
theorem u9 {T T2:TypeId}{y:Operand}{q:ByteArray}{C:Hp→cG}(hx:evo t x=some s.val) (hy:evo t y=some (.string q)) [hT:Und P T (.slice E)] [hT2:Und P T2 .string] [hE:Inf P E 1 bb z] [hf:mc H s eB xs C] (b:z.cells.size=1) (hlim:(xs.length+q.size)*bb≤140737488355328) (hlim2:xs.length+q.size≤140737488355328):
 St G P ⟨dst,.call ⟨.builtin .append, #[x,y], #[T,T2]⟩,ty,pos,after,g⟩ t H (λu e=>∃a:SV,u=a.val∧e=C (Row a eB (xs++cF q))):=
 fun ρ hρ w hw=>by
  obtain⟨a,d,hr,c⟩:=oG (ty:=ty) (T:=T) (T2:=T2) (d2:=.string) (P:=P) (E:=E) (ys:=cF q) (.inl rfl) rfl b (hf:=hf) hw (pM q) rfl rfl (by rw[cI];exact hlim) (by rw[cI];exact hlim2);have:(execOp ρ ⟨dst,.call ⟨.builtin .append, #[x,y], #[T,T2]⟩,ty,pos,after,g⟩).run P w=.ok (.value a.val) d:=by
   simp only[execOp,resolve,invoke,builtin,Uh,Xn,Ul,hρ _ _ hx,hρ _ _ hy,Sem.run_bind,Sem.run_pure,Result.andThen_ok,hr]
  rw[this];exact⟨_,c,a,rfl,rfl⟩
theorem oy (e:Enc α) (n:Nat) (x:α):∀j,j<n*e.sz→(e.all (List.replicate n x))[j]? =(e.f x)[j%e.sz]? :=by
 induction n with
 |zero=>intro j h;omega
 |succ n ih=>
  intro j h;rw[Uy,Enc.all_cons]
  by_cases hj:j<e.sz
  ·rw[Yv (by rw[e.len];exact hj),Xt hj]
  ·rw[Yu bC,e.len,ih _ (by rw[Vg]at h;omega)];rw[←Nat.mod_eq_sub_mod a8]
theorem fq {T:TypeId}{y:Operand}{k k':IntKind}{i j:Int}(e:Enc α) (x0:α) [hT:Und P T (.slice E)] [q:Inf P E e.sz bb z] (hx:evo t x=some (.int k i)) (hy:evo t y=some (.int k' j)) (n c:Nat) (hi:i=n) (hj:j=c) (p:z.cells=(e.f x0).toArray) (a:n≤c) (hc:bb*c≤281474976710656) (hc2:c≤281474976710656):
 St G P ⟨dst,.makeSlice T x y,ty,pos,after,g⟩ t H (λu r=>∃s:SV,u=s.val∧s.n=n∧s.c=c∧r=Row s e (List.replicate n x0)::H):=
 fun ρ hρ w hw=>by
  obtain⟨inf,l,hi2,h,hi4⟩:=q.out;have d:IntKind.i64.wrap (c:Int)=c:=ie a8;have b:IntKind.i64.wrap (n:Int)=n:=ie a8;have m:((bb:Int)*(c:Int))=((bb*c:Nat):Int):=ak;have hr:(execOp ρ ⟨dst,.makeSlice T x y,ty,pos,after,g⟩).run P w=.ok (.value (.slice (some ⟨w.heap.size,0,none⟩) n c)) {w with heap:=w.heap.push (.cells ((Array.range (c*e.sz)).map ((if c*e.sz=0 then #[]else(e.f x0).toArray)[· % (if c*e.sz=0 then #[]else(e.f x0).toArray:Array Value).size]!)) E)}:=by
   have h1:¬((c:Int)<0):=a8;have h2:¬(((bb*c:Nat):Int) > 2^48):=by
    have:(2:Int)^48=281474976710656:=rfl;omega
   have h3:¬((n:Int)<0):=a8;have h4:¬((n:Int) > (c:Int)):=a8;simp only[execOp,hρ _ _ hx,hρ _ _ hy,Instr.makeSlice,Sem.run_bind,cS (T:=T),Result.andThen_ok,asInt,asIntOf,Sem.run_pure,hi,hj,typeInfo,run_program,l,h,d,b,m];simp only[h1,h2,h3,h4,decide_false,Bool.or_self,Xp,↓reduceIte,Sem.run_bind,run_askRoom,Result.andThen_ok,dA (T:=E) (s:=e.sz),Uv]
   by_cases h0:c*e.sz=0
   ·simp only[h0,↓reduceIte,Sem.run_bind,Sem.run_pure,Result.andThen_ok];rfl
   ·simp only[h0,↓reduceIte,Sem.run_bind,Sem.run_pure,Result.andThen_ok,gY (T:=E),p];rfl
  rw[hr];refine⟨_,hw.newRow e (List.replicate n x0) _ E n c ak a ak ?_,⟨some ⟨w.heap.size,0,none⟩,n,c⟩,rfl,rfl,rfl,rfl⟩;intro j v hv;have hj:=(Yk.1 hv).1;rw[e.all_length,Xe]at hj;have f:j<c*e.sz:=S5 hj (Vc _ a);have h0:c*e.sz≠0:=a8;rw[oy e n x0 j hj]at hv;have hm:j%e.sz<(e.f x0).length:=by rw[e.len];exact Um _ e.pos
  simp only[h0,↓reduceIte,Array.getElem?_map,List.size_toArray,e.len];rw[Array.getElem?_range,if_pos f];simp only[Vd];rw[Yi hm]at hv;rw[←hv];congr 1;simp[hm]
def dQ (xs:List Nat):ByteArray:=⟨(xs.map UInt8.ofNat).toArray⟩
theorem ec (h:∀x∈xs,x<256):cF (dQ xs)=xs:=by
 simp only[cF,dQ,Ut];refine(T8 λx hx=>?_).trans (P5 xs);have:=h x hx;simp[Xt this]
theorem iz (s:ByteArray):dQ (cF s)=s:=by
 simp only[cF,dQ,Ut];cases s with
 |mk d=>
  congr 1;apply Array.ext';simp only[];refine(T8 λx _=>?_).trans (P5 d.toList);simp
theorem iw {s u:ByteArray}:cF s=cF u↔s=u:=⟨λh=>by rw[←iz s,←iz u,h],λh=>by rw[h]⟩
theorem jQ (s:ByteArray):∀x∈cF s,x<256:=by
 intro x hx;obtain⟨y,_,rfl⟩:=Xw.1 hx;exact y.toNat_lt
theorem dR (s u:ByteArray):cF (s++u)=cF s++cF u:=by simp[cF,ByteArray.data_append]
theorem gG (xs:List Nat):(dQ xs).size=xs.length:=by simp[dQ,ByteArray.size]
theorem ye (xs:List Nat):∀a:ByteArray,(xs.map (fun(n:Nat)=>(n:Int))).foldl (λr n=>r.push (UInt8.ofNat n.toNat)) a=⟨a.data++(xs.map UInt8.ofNat).toArray⟩:=by
 induction xs with
 |nil=>intro a;simp
 |cons x xs ih=>
  intro a;simp only[Xn,List.foldl_cons,Uv];rw[ih];congr 1;apply Array.ext';simp[ByteArray.push]
theorem Ac (xs:List Nat):eB.all xs=(xs.map (fun(n:Nat)=>(n:Int))).map (Value.int .u8):=by
 induction xs with
 |nil=>rfl
 |cons x xs ih=>rw[Enc.all_cons,ih];rfl
theorem dX {S D:TypeId} [hS:Und P S (.slice E)] [hD:Und P D .string] [hE:Und P E (.int .u8)] (hx:evo t x=some s.val) [hs:Sl H s eB xs]:
 Ev G P ⟨dst,.convert S D x,ty,pos,after,g⟩ t H (.string (dQ xs)):=
 fun ρ hρ w hw=>by
  obtain⟨h1,_,h3⟩:=hs.get hw;rcases h3 with⟨rfl,_⟩|⟨b,c,C0,E0,fz,h4,f,_,h6⟩
  ·simp only[Yc]at h1;simp only[execOp,convert,hρ _ _ hx,Sem.run_bind,cS (T:=S),cS (T:=D),cS (T:=E),Result.andThen_ok,SV.val,h1];cases h4:s.a with
   |none=>
    simp only[Conv.bytesToString,Sem.run_bind,Sem.run_pure];rfl
   |some a=>
    have d:=run_bytesToString (P:=P) w a 0 s.c [] (by simp[loadCells,loadCellsFrom]);simp only[d,Result.andThen_ok,Sem.run_pure];rfl
  ·have e:=dP (P:=P) (o:=c) f (eB.all xs) h6;rw[eB.all_length,show eB.sz=1 from rfl,R6,←h1]at e;rw[Ac]at e;have d:=run_bytesToString (P:=P) w ⟨b,c,none⟩ s.n s.c _ e;rw[ye]at d;simp only[execOp,convert,hρ _ _ hx,Sem.run_bind,cS (T:=S),cS (T:=D),cS (T:=E),Result.andThen_ok,SV.val,h4,d,Sem.run_pure];congr 4;apply Array.ext';simp
end
end
end Go.Sx
