import Derived.Test.YtcokhbglfaakjaaGreatDoorQ3
import Derived.Maps.RangeRun
import Derived.Laws.Cover1
set_option linter.all false
set_option maxHeartbeats 0
namespace Go.Sx
open Go
section
variable {G:dJ}{P:Program}{N:Nat}{Q:Post}{t:Tm}{H:dD}{dst:Option Tmp}{ty:TypeId}{pos:String}{after:Array Edge}{g:Option (Nat×Bool)}
theorem Ca {T K E:TypeId}{x y v:Operand}{r i:Nat}{u S:Value}{k:List (ByteArray×Value)}{s:ByteArray}{C:Hp→dD}(hx:evo t x=some (.map (some r))) (hy:evo t y=some (.string s)) (hv:evo t v=some u) (hi:k[i]? =some (s,S)) (q:(k.map (·.1)).Nodup) [hT:Und P T (.map K E)] [R:Und P K .string] [hf:Foc H Mv r k C]:
 St G P ⟨dst,.mapUpdate T x y v,ty,pos,after,g⟩ t H (λU Z=>U=undef∧Z=C (Mv r (k.set i (s,u)))):=
 fun ρ hρ w hw=>by
  obtain⟨N,L,hL,hl⟩:=hw;obtain⟨L1,M,L2,rfl,⟨c,a,rfl,hk⟩,X⟩:=hf.foc _ hL;have J:w.heap[r]? =some (.map c.toArray a):=hl.at_ (r,.map c.toArray a) aq;have V:=MapKept.run_getObj_map (P:=P) J;have B:=MapKept.run_checkKey (P:=P) (w:=w) R.out (oM s);rcases pZ s k c 0 hk.keys hk.vals with⟨j,v',h1,h2⟩|⟨h1,h2⟩
  ·have A:j=i:=by
    have f:=(Yk.1 h1).1;exact(S1 (by rw[Yh];exact f) q).1 (by rw[Xd,Xd,h1,hi];rfl)
   subst A;have hlen:c.length=k.length:=cC;have f:=(Yk.1 h1).1;obtain⟨Y,d⟩:=gE c j;have h:Y.key=.string s:=by
    have:=congrArg (·[j]?) hk.keys;simp only[Xd,d,h1,Vs,Option.some.injEq]at this;exact this
   have h3:=MapKept.run_findKey (P:=P) (w:=w) R.out h2;have z:(Instr.keyThatStays (((c.toArray[0+j]?).map (·.key)).getD (.string s)) (.string s)).run P w=.ok (.string s) w:=by
    rw[Vw];simp only[Uw,d,Vs,V4,h,Instr.keyThatStays];have F:Instr.sameBits 10000 (.string s) (.string s)=true:=by
     show(s==s)=true;exact(MapKept.bytes_beq s s).2 rfl
    rw[if_pos F];rfl
   have p:=MapKept.run_setObj_map (P:=P) (.map (c.toArray.modify (0+j) λe=>{e with key:=.string s,val:=u}) a) J;have hr:(execOp ρ ⟨dst,.mapUpdate T x y v,ty,pos,after,g⟩).run P w=.ok .skip (fW w r (.map (c.toArray.modify (0+j) λe=>{e with key:=.string s,val:=u}) a)):=by
    simp only[execOp,hρ _ _ hx,hρ _ _ hy,hρ _ _ hv,Instr.mapUpdate,Sem.run_bind,ef (T:=T),Result.andThen_ok,V,B,h3,z,p,Sem.run_pure];rfl
   have n:MapKept.Stamped (c.toArray.modify (0+j) λe=>{e with key:=.string s,val:=u}) a:=
    MapKept.stamped_modify hk.stamped (0+j) _ (λ_ _=>rfl) (λe _ he=>by
     simp only[Vw,Uw,d,Option.some.injEq]at he;rw[←he];exact h.symm)
   rw[hr];have l:c.toArray.modify (0+j) (λe=>{e with key:=.string s,val:=u})=(c.modify j λe=>{e with key:=.string s,val:=u}).toArray:=aq;rw[l]at n⊢;refine⟨C (Mv r (k.set j (s,u))),⟨⟨N.os,N.tape,N.output⟩,_,X _ [(r,.map (c.modify j λe=>{e with key:=.string s,val:=u}).toArray a)] ⟨_,a,rfl,⟨n,?_,?_⟩⟩,?_⟩,rfl,rfl⟩
   ·apply Vz;intro m;have hm:=congrArg (·[m]?) hk.keys;simp only[Xd,List.getElem?_modify,Vf]at hm⊢
    by_cases hmj:j=m
    ·subst hmj;simp[d,f]
    ·simp only[hmj,if_false,Option.map_eq_map,id_map']at hm⊢
     simpa using hm
   ·apply Vz;intro m;have hm:=congrArg (·[m]?) hk.vals;simp only[Xd,List.getElem?_modify,Vf]at hm⊢
    by_cases hmj:j=m
    ·subst hmj;simp[d,f]
    ·simp only[hmj,if_false,Option.map_eq_map,id_map']at hm⊢
     simpa using hm
   ·have:=lB.change (w':=fW w r (.map (c.modify j λe=>{e with key:=.string s,val:=u}).toArray a)) (L1:=L1) (L2:=L2) (b:=r) (o:=.map c.toArray a) (o':=.map (c.modify j λe=>{e with key:=.string s,val:=u}).toArray a) bQ (iY J) (λi hi _=>gY hi)
    simpa using this
  ·exact absurd (Xt.2 ⟨_,Yj hi,rfl⟩) h1
structure RgE (es:List MapEntry) (seen:Array Nat) (kv:List (ByteArray×Value)) (done:List ByteArray):Prop where
 was:∀(i:Nat) (e:MapEntry) (p:ByteArray×Value),es[i]? =some e→kv[i]? =some p→(seen.contains e.born=true↔p.1∈done)
 last:∀k,done.getLast? =some k→∃(e:MapEntry) (s0:Array Nat) (j:Nat),es[j]? =some e∧(∃v,kv[j]? =some (k,v))∧seen=s0.push e.born
def Rg (i:Nat×Nat) (q:List (ByteArray×Value)×List ByteArray):Hp:=λL=>∃(es:List MapEntry) (clock:Nat) (seen:Array Nat),L= [(i.1,.map es.toArray clock),(i.2,.mapIter (some i.1) clock seen clock)]∧MvE es clock q.1∧RgE es seen q.1 q.2
theorem K4 {T K E:TypeId}{x:Operand}{r:Nat}{c:List (ByteArray×Value)}{R:dD}(hx:evo t x=some (.map (some r))) [hT:Und P T (.map K E)] [hr:Rem H Mv r c R]:
 St G P ⟨dst,.range T x,ty,pos,after,g⟩ t H (λu m=>∃i,u=.pointer (some ⟨i,0,none⟩)∧m=Rg (r,i) (c, [])::R):=
 fun ρ hρ w hw=>by
  have d:=hr.sat hw;obtain⟨f,L,⟨L1,L2,rfl,⟨b,a,rfl,hk⟩,h⟩,hl⟩:=d;have l:w.heap[r]? =some (.map b.toArray a):=hl.at_ (r,.map b.toArray a) aq;have j:=MapKept.run_getObj_map (P:=P) l;have e:(execOp ρ ⟨dst,.range T x,ty,pos,after,g⟩).run P w=.ok (.value (.pointer (some ⟨w.heap.size,0,none⟩))) {w with heap:=w.heap.push (.mapIter (some r) a #[] a)}:=by
   simp only[execOp,hρ _ _ hx,Instr.range,Sem.run_bind,ef (T:=T),Result.andThen_ok,j,Sem.run_pure,run_newObj]
  rw[e];have h2:lB {w with heap:=w.heap.push (.mapIter (some r) a #[] a)} (([(r,.map b.toArray a)]:pw)++([(w.heap.size,.mapIter (some r) a #[] a)]++L2)):=lB.push (M:= []) (L1:= [(r,.map b.toArray a)]) bQ _;refine⟨Rg (r,w.heap.size) (c, [])::R,⟨⟨f.os,f.tape,f.output⟩,_,⟨[(r,.map b.toArray a),(w.heap.size,.mapIter (some r) a #[] a)],L2,rfl,⟨b,a, #[],rfl,hk,⟨λ_ _ _ _ _=>aq,λk hk=>by simp at hk⟩⟩,h⟩,?_⟩,_,rfl,rfl⟩
  simpa using h2
theorem O5 {x:Operand}{r it:Nat}{q:List (ByteArray×Value)×List ByteArray}{R:dD}(hx:evo t x=some (.pointer (some ⟨it,0,none⟩))) [hr:Rem H Rg (r,it) q R]:
 St G P ⟨dst,.next x false,ty,pos,after,g⟩ t H (λu H'=>(∃(i:Nat) (k:ByteArray) (v:Value),q.1[i]? =some (k,v)∧k ∉ q.2∧u=.tuple #[.bool true,.string k,v]∧H'=Rg (r,it) (q.1,q.2++ [k])::R)∨((∀p∈q.1,p.1∈q.2)∧u=.tuple #[.bool false]∧H'=Rg (r,it) q::R)):=
 fun ρ hρ w hw=>by
  have hw2:=hr.sat hw;obtain⟨hS,L,⟨L1,L2,rfl,⟨es,clock,seen,rfl,hk,hs⟩,hL2⟩,hl⟩:=hw2;have hb:w.heap[r]? =some (.map es.toArray clock):=hl.at_ (r,.map es.toArray clock) aq;have hi:w.heap[it]? =some (.mapIter (some r) clock seen clock):=hl.at_ (it,.mapIter (some r) clock seen clock) aq;have hlen:es.length=q.1.length:=cC;have hat:∀(j:Nat) (e:MapEntry),es[j]? =some e→∃p,q.1[j]? =some p∧e.key=.string p.1∧e.val=p.2:=by
   intro j e he;obtain⟨p,hp⟩:∃p,q.1[j]? =some p:=⟨_,Yi (by have:=(Yk.1 he).1;omega)⟩;have h1:=congrArg (·[j]?) hk.keys;have h2:=congrArg (·[j]?) hk.vals;simp only[Xd,he,hp,Vs,Option.some.injEq]at h1 h2;exact⟨p,hp,h1,h2⟩
  rcases run_next_at (P:=P) w ty it r clock clock seen es.toArray clock hi hb (λx hx=>hk.stamped.1 x hx) (Xl _)with⟨h0,hrun⟩|⟨e,he,w1,hw1,hrun⟩
  ·have hrr:(execOp ρ ⟨dst,.next x false,ty,pos,after,g⟩).run P w=.ok (.value (.tuple #[.bool false])) w:=by
    simp only[execOp,hρ _ _ hx,Sem.run_bind,hrun,Result.andThen_ok,Sem.run_pure]
   rw[hrr];refine⟨Rg (r,it) q::R,⟨hS,_,⟨[(r,.map es.toArray clock),(it,.mapIter (some r) clock seen clock)],L2,rfl,⟨es,clock,seen,rfl,hk,hs⟩,hL2⟩,hl⟩,.inr ⟨λp hp=>?_,rfl,rfl⟩⟩;obtain⟨j,hj⟩:=Vo hp;obtain⟨e,he⟩:∃e,es[j]? =some e:=⟨_,Yi (by have:=(Yk.1 hj).1;omega)⟩;refine(hs.was j e p he hj).1 ?_;have hl0:leftOf es.toArray seen= #[]:=Array.eq_empty_of_size_eq_zero h0;have h5:=Array.filter_eq_empty_iff.1 hl0 e (by simpa using Yj he)
   simpa using h5
  ·have hrr:(execOp ρ ⟨dst,.next x false,ty,pos,after,g⟩).run P w=.ok (.value (.tuple #[.bool true,e.key,e.val])) (ChangeMaps.setBlock w1 it (.mapIter (some r) clock (seen.push e.born) clock)):=by
    simp only[execOp,hρ _ _ hx,Sem.run_bind,hrun,Result.andThen_ok,Sem.run_pure]
   rw[hrr];have he2:e∈es∧seen.contains e.born=false:=by
    have:e∈leftOf es.toArray seen:=by simpa using he
    simp only[leftOf,Array.mem_filter]at this;exact⟨by simpa using this.1,by simpa using this.2⟩
   obtain⟨j,hj⟩:=Vo he2.1;obtain⟨p,hp,hpk,hpv⟩:=hat j e hj;have hno:p.1 ∉ q.2:=λhh=>by have:=(hs.was j e p hj hp).2 hh;rw[he2.2]at this;cases this
   have hheap:w1.heap=w.heap:=by rcases hw1 with rfl|rfl <;> rfl
   have hsame:FI G w1:=by rcases hw1 with rfl|rfl <;> exact⟨hS.os,hS.tape,hS.output⟩
   refine⟨Rg (r,it) (q.1,q.2++ [p.1])::R,⟨⟨hsame.os,hsame.tape,hsame.output⟩,_,⟨[(r,.map es.toArray clock),(it,.mapIter (some r) clock (seen.push e.born) clock)],L2,rfl,⟨es,clock,_,rfl,hk,⟨λm e' p' he' hp'=>?_,λk hk=>by simp at hk;subst hk;exact⟨e,seen,j,hj,⟨p.2,hp⟩,rfl⟩⟩⟩,hL2⟩,?_⟩,.inl ⟨j,p.1,p.2,hp,hno,by rw[hpk,hpv],rfl⟩⟩
   ·have hold:=hs.was m e' p' he' hp';simp only[Array.contains_iff_mem,Array.mem_push,Xm,Vb]at hold⊢;rw[←hold];have hborn:e'.born=e.born↔p'.1=p.1:=by
     have hml:=(Yk.1 he').1
     constructor
     ·intro hh;have:m=j:=(S1 (by rw[Yh];exact hml) hk.stamped.2.1).1 (by simp only[List.toList_toArray,Xd,he',hj,Vs,hh]);subst this;rw[hp]at hp';rw[Xk hp']
     ·intro hh;have hkk:e'.key=e.key:=by
       obtain⟨p2,h1,h2,_⟩:=hat m e' he';rw[hp']at h1;rw[h2,←Xk h1,hh,hpk]
      have:m=j:=(S1 (by rw[Yh];exact hml) hk.stamped.2.2).1 (by simp only[List.toList_toArray,Xd,he',hj,Vs,hkk]);subst this;rw[hj]at he';rw[Xk he']
    rw[hborn]
   ·have hl1:lB w1 (([(r,.map es.toArray clock)]:pw)++(it,.mapIter (some r) clock seen clock)::L2):=⟨hl.nodup,λx hx=>by rw[hheap];exact hl.at_ x hx⟩;have hset:(ChangeMaps.setBlock w1 it (.mapIter (some r) clock (seen.push e.born) clock)).heap=w1.heap.setIfInBounds it (.mapIter (some r) clock (seen.push e.born) clock):=rfl;have hlt:it<w1.heap.size:=by rw[hheap];exact(Vc.1 hi).1
    have:=lB.change (w':=ChangeMaps.setBlock w1 it (.mapIter (some r) clock (seen.push e.born) clock)) (o':=.mapIter (some r) clock (seen.push e.born) clock) hl1 (by rw[hset,X8,if_pos rfl,if_pos hlt]) (λi hi _=>by rw[hset,X8,if_neg (λh=>hi h.symm)])
    simpa using this
theorem Qu {R H':dD}{r it:Nat}{q:List (ByteArray×Value)×List ByteArray}(hr:Rem H Rg (r,it) q R) (h:dH (Mv r q.1::R) H'):dH H H':=dH.rem hr (dH.trans (λL hL=>by
 obtain⟨L1,L2,rfl,⟨c,a,b,rfl,hk,_⟩,h2⟩:=hL;exact⟨[(r,.map c.toArray a)]++L2, [(it,.mapIter (some r) a b a)],⟨[(r,.map c.toArray a)],L2,rfl,⟨c,a,rfl,hk⟩,h2⟩,by
  simp only[Yd,Ye,Yf];exact List.Perm.cons _ List.perm_append_comm⟩) h)
theorem nT {T:TypeId}{x y:Operand}{s:SV}{i o K Z:Nat}{z v:Value}{α:Type}{e:Enc α}{xs:List α}{a:α}{C:Hp→dD}(hx:evo t x=some (.pointer (s.elt K i o))) (hy:evo t y=some v) [hT:Inf P T 1 Z z] [hv1:uF v] [hf:nM H s e xs C] (E:e.sz=K) (B:α) (hi:xs[i]? =some B) (L:o<e.sz) (ha:e.f a=(e.f B).set o v):
 St G P ⟨dst,.store T x y,ty,pos,after,g⟩ t H (λu H'=>u=undef∧H'=C (Row s e (xs.set i a))):=
 fun ρ hρ w hw=>by
  subst E;have p:=(Yk.1 hi).1;obtain⟨L1,M,L2,hl,U,V⟩:=hf.split hw;rcases U with⟨rfl,rfl,rfl⟩|⟨b,f,k,fz,S,Y,X,rfl,R,N,J⟩
  ·simp at p
  ·have A:w.heap[b]? =some (.cells f k fz):=hl.at_ (b,.cells f k fz) aq;have q:i*e.sz+e.sz≤f.size:=by
    rw[R,show i*e.sz+e.sz=(i+1)*e.sz from bt];exact Vu _ a8
   have n:v.oneCell'=true:=by
    have h1:=e.one a v;exact h1 (by rw[ha];exact Yj (Ue (by rw[e.len];exact L)))
   have l:=iy (P:=P) (o:=i*e.sz+o) [v] 0 f w A (λj _ h=>N.free j (by simp at h;omega)) aQ (λu c=>by simp at c;subst c;exact n);have r:v.cells= #[v]:=(qv.single (v:=v)).out;have hn:v.cells.size=1:=by rw[r];rfl
   have hx':=hρ _ _ hx;simp only[SV.elt,S,Vs,Vw]at hx';have hr:(execOp ρ ⟨dst,.store T x y,ty,pos,after,g⟩).run P w=.ok .skip (fW w b (.cells (gL f (i*e.sz+o) [v]) k fz)):=by
    simp only[execOp,hx',hρ _ _ hy,Instr.storeAt,Instr.sureAddr,storeVar,Sem.run_bind,Sem.run_pure,Result.andThen_ok,fy (T:=T),hn];simp only[ne_eq,not_true_eq_false,↓reduceIte];rw[r];simp only[X6]at l⊢;rw[l];rfl
   rw[hr];have m:gL f (i*e.sz+o) [v]=gL f (i*e.sz) (e.f a):=by
    apply Q5;intro j;rw[jc _ _ _ _ aQ,jc _ _ _ _ (by rw[e.len];exact q),e.len];simp only[Yb,Yc,Vw]
    by_cases hj:i*e.sz≤j∧j<i*e.sz+e.sz
    ·rw[if_pos hj,ha,Vf]
     by_cases hjo:o=j-i*e.sz
     ·rw[if_pos a8,if_pos hjo,if_pos (by rw[e.len];exact L),show j-(i*e.sz+o)=0 from a8];rfl
     ·rw[if_neg a8,if_neg hjo];obtain⟨d,rfl⟩:∃d,j=i*e.sz+d:=⟨j-i*e.sz,a8⟩;have hd:d<e.sz:=a8;rw[Q4,←e.all_get xs i d B hi hd];obtain⟨u,c⟩:∃u,(e.all xs)[i*e.sz+d]? =some u:=by
       rw[e.all_get xs i d B hi hd];exact⟨_,Yi (by rw[e.len];exact hd)⟩
      rw[c];exact J _ u c
    ·rw[if_neg hj,if_neg a8]
   rw[m];refine⟨C (Row s e (xs.set i a)),⟨⟨hw.1.os,hw.1.tape,hw.1.output⟩,_,V _ [(b,.cells (gL f (i*e.sz) (e.f a)) k fz)] (.inr ⟨b,_,k,fz,S,by rw[Ub];exact Y,X,rfl,by rw[iA,R],by rw[iA];exact N,?_⟩),?_⟩,rfl,rfl⟩
   ·intro j u c;rw[jc _ _ _ _ (by rw[e.len];exact q),e.len];rw[U6,if_pos p,e.all_append,e.all_cons]at c;have F:(e.all (xs.take i)).length=i*e.sz:=cf
    by_cases hj:j<i*e.sz
    ·rw[if_neg a8];rw[Yv a8,e.all_take,Vp hj]at c;exact J j u c
    ·rw[Yu a8,F]at c
     by_cases hj2:j<i*e.sz+e.sz
     ·rw[if_pos a8];rw[Yv bN]at c;exact c
     ·rw[if_neg a8];rw[Yu bN,e.len,e.all_drop,Xh,Vy,Nat.one_mul]at c;exact J j u (by rw[←c];congr 1;omega)
   ·have:=lB.change (w':=fW w b (.cells (gL f (i*e.sz) (e.f a)) k fz)) (L1:=L1) (L2:=L2) (b:=b) (o:=.cells f k fz) (o':=.cells (gL f (i*e.sz) (e.f a)) k fz) bQ (iY A) (λi hi _=>gY hi)
    simpa using this
theorem HK (a b:ByteArray):a.toList<b.toList↔dC a<dC b:=by
 have c:∀x y:List UInt8,x<y↔x.map (·.toNat)<y.map (·.toNat):=by
  intro x
  induction x with
  |nil=>intro y;cases y <;> simp
  |cons a x ih=>
   intro y;cases y with
   |nil=>simp
   |cons b y=>
    simp only[Xs,U0,ih y,UInt8.lt_iff_toNat_lt,UInt8.toNat_inj]
 rw[ByteArray.toList_eq,ByteArray.toList_eq];exact c _ _
theorem ux:∀(x y:List UInt8),Op.bytesLess x y=decide (x<y)
 | [], []=>by simp[Op.bytesLess]
 |_::_, []=>by simp[Op.bytesLess]
 | [],_::_=>by simp[Op.bytesLess]
 |a::x,b::y=>by
  rw[Op.bytesLess,ux x y]
  by_cases h1:a<b
  ·simp[h1,U0]
  ·by_cases h2:a=b
   ·subst h2;simp[U0]
   ·simp[h1,h2,U0]
theorem ly (a b:ByteArray):Op.bytesLess a.toList b.toList=decide (dC a<dC b):=by
 rw[ux];exact Vm.2 (HK a b)
theorem Zs {T U:TypeId}{x y:Operand}{a b:ByteArray}(hx:evo t x=some (.string a):=by exact rfl) (hy:evo t y=some (.string b):=by exact rfl):Ev G P ⟨dst,.binOp .lss T x y U,ty,pos,after,g⟩ t H (.bool (decide (dC a<dC b))):=
 fun ρ hρ w _=>by
  simp only[execOp,hρ _ _ hx,hρ _ _ hy,eqGuard,binOp_string_lss,ly];rfl
theorem Zt {T U:TypeId}{x y:Operand}{a b:ByteArray}(hx:evo t x=some (.string a):=by exact rfl) (hy:evo t y=some (.string b):=by exact rfl):Ev G P ⟨dst,.binOp .leq T x y U,ty,pos,after,g⟩ t H (.bool (!decide (dC b<dC a))):=
 fun ρ hρ w _=>by
  have e:(Op.bytesLess a.toList b.toList ||a.toList==b.toList)= !decide (dC b<dC a):=by
   rw[ly,Bv,U2];simp only[Uh,Xq,Uf,Xy];rw[List.not_lt,List.le_iff_lt_or_eq]
  simp only[execOp,hρ _ _ hx,hρ _ _ hy,eqGuard,binOp_string_leq,e];rfl
theorem Zv {T U:TypeId}{x y:Operand}{a b:ByteArray}(hx:evo t x=some (.string a):=by exact rfl) (hy:evo t y=some (.string b):=by exact rfl):Ev G P ⟨dst,.binOp .geq T x y U,ty,pos,after,g⟩ t H (.bool (!decide (dC a<dC b))):=
 fun ρ hρ w _=>by
  simp only[execOp,hρ _ _ hx,hρ _ _ hy,eqGuard,binOp_string_geq,ly];rfl
end
end Go.Sx
namespace Go.Sx
open Go
section
variable {G:dJ}{P:Program}{N:Nat}{Q:Post}{t:Tm}{H:dD}{dst:Option Tmp}{ty:TypeId}{pos:String}{after:Array Edge}{g:Option (Nat×Bool)}
theorem zM {T E:TypeId}{n a d s e:Nat}{z b:Value}{ps:List (Nat×Operand)}{vs:List (Nat×Value)}(l:List Value) (hp:wc t ps=some vs) [hT:Und P T (.array n E)] [hE:Inf P E a d z] [hI:Inf P T s e b] (hf:Instr.fill (λi=>some (i*a,a)) b.cells vs=some l.toArray):
 Ev G P ⟨dst,.build T ps.toArray,ty,pos,after,g⟩ t H (.agg l.toArray):=
 fun ρ hρ w _=>by
  have c:(ps.toArray.map fun(i,x)=>(i,ρ x)).toList=vs:=by simp[uh hρ hp]
  simp only[execOp,Instr.build,Sem.run_bind,ef (T:=T),mb (T:=T),fy (T:=E),Result.andThen_ok,c,hf,Sem.run_pure]
theorem zL {T E:TypeId}{n b:Nat}{z v:Value}{x a:Operand}{k:IntKind}{j:Int}{l:List Value}(i:Nat) (hx:evo t x=some (.agg l.toArray)) (hi:evo t a=some (.int k j)) (hj:j=(i:Int)) [hT:Und P T (.array n E)] [hO:One P E] [hE:Inf P E 1 b z] (hn:i<n) (hv:l[i]? =some v):
 Ev G P ⟨dst,.index T x a,ty,pos,after,g⟩ t H v:=
 fun ρ hρ w _=>by
  subst hj;have h1:(0≤((i:Nat):Int)∧((i:Nat):Int)<((n:Nat):Int)):=a8;simp only[execOp,Instr.index,hρ _ _ hx,hρ _ _ hi,asIntOf,Sem.run_bind,ef (T:=T),fy (T:=E),iZ (T:=E),Result.andThen_ok,Sem.run_pure,if_pos h1,part,Xx,↓reduceIte,Ve,U5,Uw,hv]
end
end Go.Sx
namespace Go.Sx
open Go
section
variable {G:dJ}{P:Program}{t:Tm}{H:dD}{dst:Option Tmp}{ty:TypeId}{pos:String}{after:Array Edge}{g:Option (Nat×Bool)}
theorem CM {α β:Type}{f:α→β}{l:List α}(h:(l.map f).Nodup):l.Nodup:=(U8.1 h).imp λh e=>h (congrArg f e)
theorem PO {x:Operand}{T K E:TypeId}{r:Nat}{c:List (ByteArray×Value)}{C:Hp→dD}(hx:evo t x=some (.map (some r))) [hT:Und P T (.map K E)] [hf:Foc H Mv r c C]:
 Ev G P ⟨dst,.call ⟨.builtin .len, #[x], #[T]⟩,ty,pos,after,g⟩ t H (.int .i64 ((c.length:Nat):Int)):=
 fun ρ hρ w hw=>by
  obtain⟨hS,L,hL,hl⟩:=hw;obtain⟨L1,M,L2,rfl,⟨d,a,rfl,hk⟩,hB⟩:=hf.foc _ hL;have f:w.heap[r]? =some (.map d.toArray a):=hl.at_ (r,.map d.toArray a) aq;have e:=MapKept.run_getObj_map (P:=P) f;have b:d.length=c.length:=cC;simp only[execOp,resolve,Sem.run_bind,Sem.run_pure,Result.andThen_ok,invoke,builtin,Builtin.len_,Uy,Xs,Ud,hρ _ _ hx,Uw,Xb,ef (T:=T),e,goInt,List.size_toArray,b]
theorem Ms {x:Operand}{r it i:Nat}{q:List (ByteArray×Value)×List ByteArray}{k:ByteArray}{v:Value}{d0:List ByteArray}{C:Hp→dD}(hx:evo t x=some (.pointer (some ⟨it,0,none⟩))) (hd:q.2=d0++ [k]) (hi:q.1[i]? =some (k,v)) [hf:Foc H Rg (r,it) q C]:
 Ev G P ⟨dst,.entry x,ty,pos,after,g⟩ t H (.tuple #[.string k,v]):=
 fun ρ hρ w hw=>by
  obtain⟨hS,L,hL,hl⟩:=hw;obtain⟨L1,M,L2,rfl,⟨n,a,b,rfl,hk,u⟩,hB⟩:=hf.foc _ hL;have y:w.heap[r]? =some (.map n.toArray a):=hl.at_ (r,.map n.toArray a) aq;have m:w.heap[it]? =some (.mapIter (some r) a b a):=hl.at_ (it,.mapIter (some r) a b a) aq;obtain⟨e,s,j,he,hj,d⟩:=u.last k (by rw[hd];simp);obtain⟨v',hj⟩:=hj;have h1:=congrArg (·[j]?) hk.keys;have h2:=congrArg (·[j]?) hk.vals;simp only[Xd,he,hj,Vs,Option.some.injEq]at h1 h2;have l:j=i:=by
   have f:(q.1.map (·.1)).Nodup:=by
    have h5:=hk.stamped.2.2;rw[List.toList_toArray,hk.keys,show(λp:ByteArray×Value=>Value.string p.1)=Value.string∘(·.1)from rfl,←Uo]at h5;exact CM h5
   have h:=(Yk.1 hj).1;exact(S1 (by rw[Yh];exact h) f).1 (by rw[Xd,Xd,hj,hi];rfl)
  subst l;rw[hi]at hj;cases hj;have c:=run_entry_at (P:=P) w it r a s n.toArray a e (by rw[←d];exact m) y (by simpa using Yj he) hk.stamped.2.1;simp only[execOp,hρ _ _ hx,Sem.run_bind,c,Result.andThen_ok,Sem.run_pure,h1,h2]
end
end Go.Sx
namespace Go.Sx
theorem ee {H H':dD}{s:SV}{α:Type}{e:Enc α}{xs:List α}(h:dH H H') (hs:Sl H' s e xs):Sl H s e xs:=Sl.hsub h hs
theorem dH.none {H:dD}:dH H []:=λL _=>⟨[],L,rfl,aq⟩
end Go.Sx
namespace Go.Sx
def isD (b:Nat):Bool:=decide (48≤b)&&decide (b≤57)
def isW (b:Nat):Bool:=decide (97≤b)&&decide (b≤122) ||decide (65≤b)&&decide (b≤90) ||isD b ||decide (b=95) ||decide (128≤b)
def lW (s:List Nat) (i:Nat):Bool:=decide (0<i)&&decide (i+1<s.length)&&(decide (at0 s i=39)&&isW (at0 s (i-1))&&isW (at0 s (i+1)) ||decide (at0 s i=46)&&isD (at0 s (i-1))&&isD (at0 s (i+1)))
def inW (s:List Nat) (i:Nat):Bool:=decide (i<s.length)&&(isW (at0 s i) ||lW s i)
structure Tok where
 text:List Nat
 value:Nat
 pos:Nat
 st:Nat
 en:Nat
def gj (s:List Nat):Nat→Option Nat×List Tok
 | 0=>(none, [])
 |i+1=>
  let p:=gj s i
  match inW s i,p.1 with
  |true,none=>(some i,p.2)
  |false,some a=>(none,p.2++ [⟨(s.take i).drop a,0,p.2.length,a,i⟩])
  |_,_=>p
def gy (s:List Nat):List Tok:=(gj s (s.length+1)).2
theorem mP {s:List Nat}{i:Nat}{out:List Tok}(h:gj s i=(none,out)) (a:inW s i=true):gj s (i+1)=(some i,out):=by
 unfold gj;simp only[h,a]
theorem rq {s:List Nat}{i a:Nat}{out:List Tok}(h:gj s i=(some a,out)) (b:inW s i=false):gj s (i+1)=(none,out++ [⟨(s.take i).drop a,0,out.length,a,i⟩]):=by
 unfold gj;simp only[h,b]
theorem uG {s:List Nat}{i a:Nat}{out:List Tok}(h:gj s i=(some a,out)) (b:inW s i=true):gj s (i+1)=(some a,out):=by
 unfold gj;simp only[h,b]
theorem rp {s:List Nat}{i:Nat}{out:List Tok}(h:gj s i=(none,out)) (a:inW s i=false):gj s (i+1)=(none,out):=by
 unfold gj;simp only[h,a]
theorem Ak (w:List Nat):∀(i:Nat) (a:Option Nat) (out:List Tok),gj w i=(a,out)→out.length≤i∧∀b,a=some b→b<i∧out.length≤b:=by
 intro i
 induction i with
 |zero=>intro a out h;cases h;simp
 |succ i ih=>
  intro a out h;obtain⟨d,e,h0⟩:∃d e,gj w i=(d,e):=⟨_,_,rfl⟩;obtain⟨h1,h2⟩:=ih d e h0;cases hin:inW w i <;> cases d with
  |none=>
   first
   |(rw[rp h0 hin]at h;cases h;exact⟨a8,λb c=>by cases c⟩)
   |(rw[mP h0 hin]at h;cases h;exact⟨a8,λb c=>by cases c;omega⟩)
  |some d=>
   have:=h2 d rfl
   first
   |(rw[rq h0 hin]at h;cases h;simp only[Ya,Yb,Yc];exact⟨a8,λb c=>by cases c⟩)
   |(rw[uG h0 hin]at h;cases h;exact⟨a8,λb c=>by cases c;omega⟩)
def stI:Option Nat→Int
 |none=>-1
 |some a=>(a:Int)
theorem Ge {o:Option Nat}:stI o<0↔o=none:=by
 cases o with
 |none=>simp[stI]
 |some a=>simp only[stI,reduceCtorEq,iff_false];omega
def lF (w:List Nat) (i:Nat):Bool:=(decide (65≤at0 w i)&&decide (at0 w i≤90)) ||(decide (0<i)&&decide (at0 w (i-1)=195)&&decide (128≤at0 w i)&&decide (at0 w i≤158)&&!decide (at0 w i=151))
def mr (w:List Nat) (i:Nat):Nat:=bif lF w i then at0 w i+32 else at0 w i
def kF (w:List Nat):List Nat:=(List.range w.length).map (mr w)
def lE (w:List Nat) (i:Nat):List Nat:=(kF w).take i++w.drop i
theorem hU (w:List Nat):(kF w).length=w.length:=by simp[kF]
theorem ug {w:List Nat}{i:Nat}(h:i≤w.length):(lE w i).length=w.length:=by
 simp only[lE,Ya,Yg,hU,Yo];omega
theorem uz {w:List Nat}{i:Nat}(h:i<w.length):w[i]? =some (at0 w i):=by
 rw[at0,Xj,Yi h];rfl
theorem IF {w:List Nat}{i:Nat}(h:i<w.length):(kF w)[i]? =some (mr w i):=by
 simp[kF,h]
theorem zI {w:List Nat}{i:Nat}(h:i<w.length):(lE w i)[i]? =some (at0 w i):=by
 rw[lE,Yu (by simp[hU];omega),Yg,hU,Ug a8,Ui,Xh,X6,uz h]
theorem yc {w:List Nat}{i:Nat}(h:i<w.length):(kF w).take (i+1)=(kF w).take i++ [mr w i]:=by
 rw[Um,IF h];rfl
theorem yb {w:List Nat}{i:Nat}(h:i<w.length):lE w (i+1)=(lE w i).set i (mr w i):=by
 have e:w.drop i=at0 w i::w.drop (i+1):=by
  rw[List.drop_eq_getElem_cons h];congr 1;have:=uz h;rw[Yi h]at this;exact Xk this
 have hl:((kF w).take i).length=i:=by rw[Yg,hU];omega
 rw[lE,lE,yc h,e,Ux _ _ a8,hl,Ui,List.set_cons_zero,Yf];rfl
theorem ID {w:List Nat}{i:Nat}(h:i<w.length) (hc:lF w i=true):(lE w i).set i (at0 w i+32)=lE w (i+1):=by
 rw[yb h,mr,hc];rfl
theorem Mg {w:List Nat}{i:Nat}(h:i<w.length) (hc:lF w i=false):lE w i=lE w (i+1):=by
 rw[yb h,mr,hc];apply Vz;intro j
 by_cases hj:i=j
 ·subst hj;rw[Ue (by rw[ug a8];exact h),zI h];rfl
 ·rw[List.getElem?_set_ne hj]
theorem IE (w:List Nat):lE w w.length=kF w:=by
 rw[lE,Vn (Xl _),Xr (by rw[hU];exact Xl _),Ym]
theorem Fl (w:List Nat):lE w 0=w:=by simp[lE]
theorem IG {w:List Nat}(a:∀x∈w,x<256) (i:Nat):mr w i<256:=by
 have h0:at0 w i<256:=by
  rw[at0,Xj];cases h:w[i]? with
  |none=>decide
  |some x=>exact a x (Yj h)
 rw[mr];cases hc:lF w i with
 |false=>exact h0
 |true=>
  simp only[lF,Uh,Xu,Xq]at hc;simp only[cond_true];omega
def isV (b:Nat):Bool:=decide (b=97) ||decide (b=101) ||decide (b=105) ||decide (b=111) ||decide (b=117)
def tr:Option Bool→List Nat→List Bool
 |_, []=>[]
 |p,b::r=>
  let v:=isV b ||(decide (b=121)&&(match p with|some q=>!q|none=>false))
  v::tr (some v) r
def vow (w:List Nat):List Bool:=tr none w
def sY (w:List Nat):Bool:=(vow w).any id
def om (w:List Nat):Bool:=decide (2≤w.length)&&decide (at0 w (w.length-1)=at0 w (w.length-2))&&!((vow w).getD (w.length-1) false)
def iX (w:List Nat):Bool:=decide (3≤w.length)&&!(decide (at0 w (w.length-1)=119) ||decide (at0 w (w.length-1)=120) ||decide (at0 w (w.length-1)=121))&&(!((vow w).getD (w.length-3) false)&&(vow w).getD (w.length-2) false&&!((vow w).getD (w.length-1) false))
def dZ (w e:List Nat):Bool:=decide (e.length≤w.length)&&decide (w.drop (w.length-e.length)=e)
def lz (w e:List Nat):Bool:=decide (e.length≤w.length)&&decide (w.take e.length=e)
abbrev ik:=List Nat×List Nat
def lsC (w:List Nat) (best:Option ik) (r:ik):Bool:=dZ w r.1&&(match best with|none=>true|some b=>decide (b.1.length<r.1.length))
def oJ (w:List Nat) (best:Option ik) (r:ik):Option ik:=bif lsC w best r then some r else best
def fq (rs:List ik) (w:List Nat):Option ik:=rs.foldl (oJ w) none
theorem pz:∀(w:List Nat) (p:Option Bool),(tr p w).length=w.length
 | [],_=>rfl
 |b::r,p=>by simp only[tr,Yb,pz r]
theorem fZ (w:List Nat):(vow w).length=w.length:=pz w none
theorem yW:∀(w:List Nat) (p:Option Bool) (i:Nat),i<w.length→(tr p w)[i]? =some (isV (at0 w i) ||(decide (at0 w i=121)&&(match (if i=0 then p else(tr p w)[i-1]?)with|some q=>!q|none=>false)))
 | [],_,_,h=>aK
 |b::r,p,0,_=>by simp[tr,at0]
 |b::r,p,i+1,h=>by
  have a:=yW r (some (isV b ||(decide (b=121)&&(match p with|some q=>!q|none=>false)))) i bA;simp only[tr,Xc,a,at0,List.getD_cons_succ,Nat.add_eq_zero_iff,X7];cases i with
  |zero=>simp
  |succ i=>simp
theorem FU {w:List Nat}{i:Nat}(h:i<w.length):(vow w)[i]? =some (isV (at0 w i) ||(decide (at0 w i=121)&&(decide (0<i)&&!((vow w).getD (i-1) false)))):=by
 rw[vow,yW w none i h]
 by_cases h0:i=0
 ·simp[h0]
 ·rw[if_neg h0];have hl:i-1<(tr none w).length:=by rw[pz];omega
  rw[Xj,Yi hl];simp[Nat.pos_of_ne_zero h0]
def vAt (w:List Nat) (i:Nat):Bool:=isV (at0 w i) ||(decide (at0 w i=121)&&(decide (0<i)&&!((vow w).getD (i-1) false)))
def qB (w:List Nat) (i:Nat):List Bool:=(vow w).take i++List.replicate (w.length-i) false
theorem vH {w:List Nat}{i:Nat}(h:i≤w.length):(qB w i).length=w.length:=by
 simp only[qB,Ya,Yg,fZ,Xe];omega
theorem HE (w:List Nat):qB w 0=List.replicate w.length false:=by simp[qB]
theorem Jt (w:List Nat):qB w w.length=vow w:=by
 rw[qB,Xr (by rw[fZ];exact Xl _),Ui];simp
theorem Js {w:List Nat}{i j:Nat}(h:j<i) (hi:i≤w.length):(qB w i)[j]? =some ((vow w).getD j false):=by
 rw[qB,Yv dB,Vp h,Xj,Yi (by rw[fZ];omega)];rfl
theorem wS {w:List Nat}{i:Nat}(h:i<w.length) {b:Bool}(c:vAt w i=b):(qB w i).set i b=qB w (i+1):=by
 have hl:((vow w).take i).length=i:=dB;have a:=FU h;rw[show(isV (at0 w i) ||(decide (at0 w i=121)&&(decide (0<i)&&!((vow w).getD (i-1) false))))=b from c]at a;rw[qB,qB,Um,a,Ux _ _ a8,hl,Ui,show w.length-i=(w.length-(i+1))+1 from a8,V6,List.set_cons_zero,Yf];rfl
theorem HF {w:List Nat}{i:Nat}(h:i<w.length) (a:vAt w i=false):qB w i=qB w (i+1):=by
 rw[←wS h a];apply Vz;intro j
 by_cases hj:i=j
 ·subst hj;rw[Ue (by rw[vH a8];exact h),qB,Yu dB,Yg,fZ,Ug a8,Ui,show w.length-i=(w.length-(i+1))+1 from a8,V6];rfl
 ·rw[List.getElem?_set_ne hj]
theorem jL {w:List Nat}{i:Nat}(h:i<w.length):(vow w)[i]? =some ((vow w).getD i false):=by
 rw[Xj,Yi (by rw[fZ];exact h)];rfl
def jH (rs:List ik):List (List Nat):=rs.flatMap λr=>[r.1,r.2]
theorem B9 (rs:List ik):(jH rs).length=2*rs.length:=by
 induction rs with
 |nil=>rfl
 |cons r rs ih=>simp only[jH,Vx,Ya,Yb,Yc]at ih⊢;omega
theorem zK:∀{rs:List ik}{k:Nat}{r:ik},rs[k]? =some r→(jH rs)[2*k]? =some r.1∧(jH rs)[2*k+1]? =some r.2
 |r0::rs,0,r,h=>by cases h;exact⟨rfl,rfl⟩
 |r0::rs,k+1,r,h=>by
  have a:=zK (rs:=rs) (k:=k) (r:=r) bA;have e:jH (r0::rs)=r0.1::r0.2::jH rs:=rfl;rw[e,show 2*(k+1)=(2*k+1)+1 from a8,Xc,Xc,show(2*k+1)+1+1=(2*k+2)+1 from a8,Xc,show 2*k+2=(2*k+1)+1 from a8,Xc];exact a
def ki (strs:List ByteArray) (rs:List ik):Prop:=strs.map dC=jH rs
theorem ki.length {a:List ByteArray}{rs:List ik}(h:ki a rs):a.length=2*rs.length:=by
 rw[←B9,←show a.map dC=jH rs from h,Yh]
theorem ki.get {c:List ByteArray}{rs:List ik}(h:ki c rs) {k:Nat}{r:ik}(hr:rs[k]? =some r):∃a b:ByteArray,c[2*k]? =some a∧dC a=r.1∧c[2*k+1]? =some b∧dC b=r.2:=by
 obtain⟨h1,h2⟩:=zK hr;rw[←show c.map dC=jH rs from h,Xd]at h1 h2;cases h3:c[2*k]? with
 |none=>rw[h3]at h1;cases h1
 |some a=>
  cases h4:c[2*k+1]? with
  |none=>rw[h4]at h2;cases h2
  |some b=>rw[h3]at h1;rw[h4]at h2;exact⟨a,b,rfl,Xk h1,rfl,Xk h2⟩
def atI:Option (Nat×ik)→Int
 |none=>-1
 |some p=>((2*p.1:Nat):Int)
theorem Hr {o:Option (Nat×ik)}:atI o<0↔o=none:=by
 cases o with
 |none=>simp[atI]
 |some p=>simp only[atI,reduceCtorEq,iff_false];omega
def nV (v:List Bool):Nat→Nat
 | 0=>0
 |i+1=>nV v i+(bif decide (0<i)&&v.getD (i-1) false&&!(v.getD i false)then 1 else 0)
def iT (w:List Nat):Nat:=nV (vow w) w.length
theorem xM (v:List Bool):∀i,nV v i≤i
 | 0=>Xl _
 |i+1=>by have:=xM v i;simp only[nV];cases(decide (0<i)&&v.getD (i-1) false&&!(v.getD i false)) <;> simp <;> omega
theorem rG (v:List Bool):nV v 1=0:=by simp[nV]
theorem DO {v:List Bool}{i:Nat}(h:v[i]? =some true):v.any id=true:=S8.2 ⟨true,Yj h,rfl⟩
theorem Ac {v:List Bool}(h:∀j,j<v.length→v[j]? =some false):v.any id=false:=by
 rw[List.any_eq_false];intro x hx;obtain⟨j,hj⟩:=Vh.1 hx;have hl:=(Yk.1 hj).1;rw[h j hl]at hj;cases hj;simp
theorem tW {rs:List ik}{w:List Nat}{i:Nat}{r:ik}(h:rs[i]? =some r):(rs.take (i+1)).foldl (oJ w) none=oJ w ((rs.take i).foldl (oJ w) none) r:=by
 rw[Um,h,R4,List.foldl_append];rfl
def jl:List ik:= [([115,115,101,115], [115,115]),([105,101,115], [105]),([115,115], [115,115]),([115], [])]
def lg:List ik:= [([101,101,100], [101,101]),([101,100], []),([105,110,103], [])]
def jC:List ik:= [([97,116,105,111,110,97,108], [97,116,101]),([116,105,111,110,97,108], [116,105,111,110]),([101,110,99,105], [101,110,99,101]),([97,110,99,105], [97,110,99,101]),([105,122,101,114], [105,122,101]),([97,98,108,105], [97,98,108,101]),([97,108,108,105], [97,108]),([101,110,116,108,105], [101,110,116]),([101,108,105], [101]),([111,117,115,108,105], [111,117,115]),([105,122,97,116,105,111,110], [105,122,101]),([97,116,105,111,110], [97,116,101]),([97,116,111,114], [97,116,101]),([97,108,105,115,109], [97,108]),([105,118,101,110,101,115,115], [105,118,101]),([102,117,108,110,101,115,115], [102,117,108]),([111,117,115,110,101,115,115], [111,117,115]),([97,108,105,116,105], [97,108]),([105,118,105,116,105], [105,118,101]),([98,105,108,105,116,105], [98,108,101])]
def kr:List ik:= [([105,99,97,116,101], [105,99]),([97,116,105,118,101], []),([97,108,105,122,101], [97,108]),([105,99,105,116,105], [105,99]),([105,99,97,108], [105,99]),([102,117,108], []),([110,101,115,115], [])]
def gq:List ik:= [([97,108], []),([97,110,99,101], []),([101,110,99,101], []),([101,114], []),([105,99], []),([97,98,108,101], []),([105,98,108,101], []),([97,110,116], []),([101,109,101,110,116], []),([109,101,110,116], []),([101,110,116], []),([105,111,110], []),([111,117], []),([105,115,109], []),([97,116,101], []),([105,116,105], []),([111,117,115], []),([105,118,101], []),([105,122,101], [])]
def jA:List (List Nat):= [[97], [97,110], [97,110,100], [97,114,101], [97,115], [97,116], [98,101], [98,117,116], [98,121], [102,111,114], [102,114,111,109], [104,97,115], [104,101], [105,102], [105,110], [105,110,116,111], [105,115], [105,116], [105,116,115], [110,111], [110,111,116], [111,102], [111,110], [111,114], [115,104,101], [115,111], [115,117,99,104], [116,104,97,116], [116,104,101], [116,104,101,105,114], [116,104,101,110], [116,104,101,114,101], [116,104,101,115,101], [116,104,101,121], [116,104,105,115], [116,111], [119,97,115], [119,101], [119,101,114,101], [119,105,108,108], [119,105,116,104], [121,111,117]]
def mM (w e:List Nat):List Nat:=w.take (w.length-e.length)
def eA (w:List Nat):List Nat:=w.take (w.length-1)
def gQ (rs:List ik) (most:Nat) (w:List Nat):List Nat:=
 match fq rs w with
 |some r=>bif decide (most<iT (mM w r.1))then mM w r.1++r.2 else w
 |none=>w
def ja (w:List Nat):List Nat:=
 match fq jl w with
 |some r=>mM w r.1++r.2
 |none=>w
def mD (w:List Nat):List Nat:=
 bif dZ w [97,116] ||dZ w [98,108] ||dZ w [105,122]then w++ [101]
 else bif om w&&!(decide (at0 w (w.length-1)=108) ||decide (at0 w (w.length-1)=115) ||decide (at0 w (w.length-1)=122))then eA w
 else bif decide (iT w=1)&&iX w then w++ [101]else w
def iW (w:List Nat):List Nat:=
 match fq lg w with
 |none=>w
 |some r=>bif decide (r.1= [101,101,100])then(bif decide (0<iT (mM w r.1))then mM w r.1++r.2 else w)else bif sY (mM w r.1)then mD (mM w r.1)else w
def kM (w:List Nat):List Nat:=bif dZ w [121]&&sY (eA w)then eA w++ [105]else w
def mZ (w:List Nat):List Nat:=
 match fq gq w with
 |some r=>bif decide (r.1= [105,111,110])&&!dZ (mM w r.1) [115]&&!dZ (mM w r.1) [116]then w else gQ gq 1 w
 |none=>w
def jk (w:List Nat):List Nat:=bif dZ w [101]&&(decide (1<iT (eA w)) ||decide (iT (eA w)=1)&&!iX (eA w))then eA w else w
def qJ (w:List Nat):List Nat:=bif dZ (jk w) [108,108]&&decide (1<iT (jk w))then eA (jk w)else jk w
def qX (b:Nat):Bool:=decide (97≤b)&&decide (b≤122)
def m7 (w:List Nat):List Nat:=bif decide (2<w.length)&&dZ w [39,115]then w.take (w.length-2)else w
def vK (w:List Nat):List Nat:=bif decide (w.length<3)||!(w.all qX)then w else qJ (mZ (gQ kr 0 (gQ jC 0 (kM (iW (ja w))))))
def jM (w:List Nat):List Nat:=vK (m7 w)
theorem Ip {w:List Nat}{rs:List ik}:∀{best:Option ik}{r:ik},rs.foldl (oJ w) best=some r→(best=some r)∨(r∈rs∧dZ w r.1=true):=by
 induction rs with
 |nil=>intro best r h;exact .inl h
 |cons x rs ih=>
  intro best r h;rcases ih (best:=oJ w best x) (r:=r) h with h1|⟨h1,h2⟩
  ·rw[oJ]at h1;cases hc:lsC w best x with
   |true=>
    rw[hc]at h1;cases h1;simp only[lsC,Xu]at hc;exact .inr ⟨aq,hc.1⟩
   |false=>rw[hc]at h1;exact .inl h1
  ·exact .inr ⟨Xa _ h1,h2⟩
theorem nW {w:List Nat}{rs:List ik}{r:ik}(h:fq rs w=some r):r∈rs∧dZ w r.1=true:=by
 rcases Ip h with h|h
 ·cases h
 ·exact h
theorem yv (w e:List Nat):(mM w e).length≤w.length:=by simp only[mM,Yg];omega
theorem o7 (w:List Nat):(eA w).length≤w.length:=by simp only[eA,Yg];omega
theorem jY {rs:List ik}{most k:Nat}(h:∀r∈rs,r.2.length≤k) (w:List Nat):(gQ rs most w).length≤w.length+k:=by
 rw[gQ];cases hl:fq rs w with
 |none=>simp only;omega
 |some r=>
  have h1:=h r (nW hl).1;have h2:=yv w r.1;simp only;cases decide (most<iT (mM w r.1))with
  |true=>simp only[cond_true,Ya];omega
  |false=>simp only[cond_false];omega
theorem pE (w:List Nat):(ja w).length≤w.length+10:=by
 rw[ja];cases hl:fq jl w with
 |none=>simp only;omega
 |some r=>
  have h1:∀r∈jl,r.2.length≤10:=ae;have:=h1 r (nW hl).1;have h2:=yv w r.1;simp only[Ya];omega
theorem Io (w:List Nat):(mD w).length≤w.length+10:=by
 have h1:=o7 w;unfold mD;cases(dZ w [97,116] ||dZ w [98,108] ||dZ w [105,122])with
 |true=>simp
 |false=>
  simp only[cond_false];cases(om w&&!(decide (at0 w (w.length-1)=108) ||decide (at0 w (w.length-1)=115) ||decide (at0 w (w.length-1)=122)))with
  |true=>simp only[cond_true];omega
  |false=>
   simp only[cond_false];cases(decide (iT w=1)&&iX w) <;> simp
theorem pD (w:List Nat):(iW w).length≤w.length+20:=by
 rw[iW];cases hl:fq lg w with
 |none=>simp only;omega
 |some r=>
  have h1:∀r∈lg,r.2.length≤10:=ae;have:=h1 r (nW hl).1;have h2:=yv w r.1;have h3:=Io (mM w r.1);simp only;cases decide (r.1= [101,101,100])with
  |true=>
   simp only[cond_true];cases decide (0<iT (mM w r.1))with
   |true=>simp only[cond_true,Ya];omega
   |false=>simp only[cond_false];omega
  |false=>
   simp only[cond_false];cases sY (mM w r.1)with
   |true=>simp only[cond_true];omega
   |false=>simp only[cond_false];omega
theorem sP (w:List Nat):(kM w).length≤w.length+10:=by
 have h1:=o7 w;rw[kM];cases(dZ w [121]&&sY (eA w))with
 |true=>simp only[cond_true,Ya,Yb,Yc];omega
 |false=>simp only[cond_false];omega
theorem uK (w:List Nat):(mZ w).length≤w.length+10:=by
 have h1:=jY (rs:=gq) (most:=1) (k:=10) ae w;rw[mZ];cases fq gq w with
 |none=>simp only;omega
 |some r=>
  simp only;cases(decide (r.1= [105,111,110])&&!dZ (mM w r.1) [115]&&!dZ (mM w r.1) [116])with
  |true=>simp only[cond_true];omega
  |false=>simp only[cond_false];omega
theorem HU (w:List Nat):(qJ w).length≤w.length:=by
 have h1:(jk w).length≤w.length:=by
  have h1:=o7 w;rw[jk];cases(dZ w [101]&&(decide (1<iT (eA w)) ||decide (iT (eA w)=1)&&!iX (eA w)))with
  |true=>simp only[cond_true];omega
  |false=>simp only[cond_false];omega
 have h2:=o7 (jk w);rw[qJ];cases(dZ (jk w) [108,108]&&decide (1<iT (jk w)))with
 |true=>simp only[cond_true];omega
 |false=>simp only[cond_false];omega
theorem ra {rs:List ik}(h:((jH rs).all λl=>l.all λx=>decide (x<256))=true):ki ((jH rs).map eG) rs:=by
 rw[ki,Uo]
 conv=>rhs;rw[←P0 (jH rs)]
 apply T1;intro l hl;have h1:=X5.1 h l hl;exact fD λx hx=>Yt (X5.1 h1 x hx)
def vc (b:Bool):Nat:=bif b then 118 else 99
theorem VT {b:Bool}:vc b=118↔b=true:=by cases b <;> decide
theorem Rw {b:Bool}:vc b=99↔b=false:=by cases b <;> decide
def oS (w:List Nat):List Nat:=(vow w).map vc
theorem mJ (w:List Nat):(oS w).length=w.length:=by rw[oS,Yh,fZ]
theorem Me (w:List Nat):∀x∈oS w,x<256:=by
 intro x hx;obtain⟨b,_,rfl⟩:=Xt.1 hx;cases b <;> decide
theorem mU {w:List Nat}{i:Nat}(h:i<w.length):(oS w)[i]? =some (vc ((vow w).getD i false)):=by
 rw[oS,Xd,jL h];rfl
theorem Mf {w:List Nat}{i:Nat}(h:i<w.length):at0 (oS w) i=vc ((vow w).getD i false):=by
 rw[at0,Xj,mU h];rfl
theorem Rv {w:List Nat}{i:Nat}(h:i<w.length):(vow w).getD i false=vAt w i:=by
 rw[Xj,FU h];rfl
theorem pY {w:List Nat}{i:Nat}(h:i<w.length) {b:Bool}(a:vAt w i=b):(oS w).take (i+1)=(oS w).take i++ [vc b]:=by
 rw[Um,mU h,Rv h,a];rfl
theorem Fk {w:List Nat}{i j:Nat}(h:j<i) (hi:i≤w.length):((oS w).take i)[j]? =some (vc ((vow w).getD j false)):=by
 rw[Vp h,mU a8]
def oR (q:ByteArray):ByteArray:=eG (oS (dC q))
theorem yx (q:ByteArray):dC (oR q)=oS (dC q):=fD (Me _)
theorem nt (q:ByteArray):(oR q).size=q.size:=by rw[oR,j9,mJ,dI]
theorem uf {q:ByteArray}{i:Nat}(h:i<q.size):at0 (dC (oR q)) i=vc ((vow (dC q)).getD i false):=by
 rw[yx,Mf (by rw[dI];exact h)]
theorem IC {q:ByteArray}(h:3≤q.size):decide (dC ((oR q).extract (q.size-3) (oR q).size)= [99,118,99])=(!((vow (dC q)).getD (q.size-3) false)&&(vow (dC q)).getD (q.size-2) false&&!((vow (dC q)).getD (q.size-1) false)):=by
 have hl:=dI q;have e:dC ((oR q).extract (q.size-3) (oR q).size)= [vc ((vow (dC q)).getD (q.size-3) false),vc ((vow (dC q)).getD (q.size-2) false),vc ((vow (dC q)).getD (q.size-1) false)]:=by
  rw[iV,yx,nt,Xr (by rw[mJ,hl];exact Xl _)];apply Vz;intro j;rw[Xh]
  by_cases h0:j=0
  ·subst h0;rw[X6,mU a8];rfl
  ·by_cases h1:j=1
   ·subst h1;rw[show q.size-3+1=q.size-2 from a8,mU a8];rfl
   ·by_cases h2:j=2
    ·subst h2;rw[show q.size-3+2=q.size-1 from a8,mU a8];rfl
    ·rw[Xz (by rw[mJ];omega),Xz aQ]
 rw[e];cases(vow (dC q)).getD (q.size-3) false <;> cases(vow (dC q)).getD (q.size-2) false <;> cases(vow (dC q)).getD (q.size-1) false <;> decide
theorem nA {w e:List Nat}(h:dZ w e=true):e.length≤w.length:=by simp[dZ]at h;exact h.1
theorem uo {w:List Nat}(h:om w=true):2≤w.length:=by simp[om]at h;exact h.1.1
theorem rI {w:List Nat}(h:1≤w.length) (x:Nat):dZ w [x]=decide (at0 w (w.length-1)=x):=by
 have e:w.drop (w.length-1)= [at0 w (w.length-1)]:=by
  apply Vz;intro j;rw[Xh]
  by_cases h0:j=0
  ·subst h0;rw[X6,uz a8];rfl
  ·rw[Xz a8,Xz aQ]
 rw[dZ,Ys (show [x].length≤w.length from h),Xv,show w.length - [x].length=w.length-1 from rfl,e];exact Vm.2 aq
theorem K1 (w:List Nat):(jM w).length≤w.length+100:=by
 have h0:(m7 w).length≤w.length:=by
  rw[m7];cases(decide (2<w.length)&&dZ w [39,115])with
  |true=>simp only[cond_true,Yg];omega
  |false=>exact Xl _
 rw[jM,vK];cases(decide ((m7 w).length<3)||!(m7 w).all qX)with
 |true=>simp only[cond_true];omega
 |false=>
  simp only[cond_false];have a1:=pE (m7 w);have a2:=pD (ja (m7 w));have a3:=sP (iW (ja (m7 w)));have a4:=jY (rs:=jC) (most:=0) (k:=10) ae (kM (iW (ja (m7 w))));have a5:=jY (rs:=kr) (most:=0) (k:=10) ae (gQ jC 0 (kM (iW (ja (m7 w)))));have a6:=uK (gQ kr 0 (gQ jC 0 (kM (iW (ja (m7 w))))));have a7:=HU (mZ (gQ kr 0 (gQ jC 0 (kM (iW (ja (m7 w)))))));omega
theorem all_take {w:List Nat}{i:Nat}(h:∀j,j<i→qX (at0 w j)=true) (hi:i=w.length):w.all qX=true:=by
 rw[X5];intro x hx;obtain⟨j,hj⟩:=Vh.1 hx;have hl:=(Yk.1 hj).1;have:=h j a8
 rwa [at0,Xj,hj]at this
theorem Hv {w:List Nat}{i:Nat}(hi:i<w.length) (h:qX (at0 w i)=false):w.all qX=false:=by
 cases ha:w.all qX with
 |false=>rfl
 |true=>
  have:=X5.1 ha (at0 w i) (Yj (uz hi));rw[h]at this;cases this
def leB (m N:Nat):List Nat:=(List.range m).map λj=>N/256^j%256
theorem gH (m N:Nat):(leB m N).length=m:=by simp[leB]
theorem Tj (m N:Nat):∀x∈leB m N,x<256:=by
 intro x hx;obtain⟨j,_,rfl⟩:=Xt.1 hx;exact V2 _ ae
theorem rH {m N j:Nat}(h:j<m):(leB m N)[j]? =some (N/256^j%256):=by
 rw[leB,Xd,Ur h];rfl
theorem Lk {m j N y:Nat}(h:j<m):(N+256^m*y)/256^j%256=N/256^j%256:=by
 obtain⟨d,rfl⟩:∃d,m=j+1+d:=⟨m-(j+1),a8⟩;have e:256^(j+1+d)*y=256^j*(256*(256^d*y)):=by
  rw[Uz,Nat.pow_succ,V3,V3]
 rw[e,Nat.add_mul_div_left _ _ (Nat.pow_pos ae),Nat.add_mul_mod_self_left]
theorem rC (T:Nat):2^T=256^(T/8)*2^(T%8):=by
 have:(256:Nat)=2^8:=rfl;rw[this,←Nat.pow_mul,←Uz];congr 1;omega
def jd (w:Nat):List Nat→Nat
 | []=>0
 |x::l=>x+2^w*jd w l
theorem xA (w x:Nat):∀l:List Nat,jd w (l++ [x])=jd w l+2^(w*l.length)*x
 | []=>by simp[jd]
 |y::l=>by
  rw[Yd,jd,xA w x l,jd,Yb,R7,R7,U5,Uz,←V3,V5 (2^w) (2^(w*l.length)),V0]
theorem CD {w:Nat}:∀{l:List Nat},(∀x∈l,x<2^w)→jd w l<2^(w*l.length)
 | [],_=>by simp[jd]
 |y::l,h=>by
  have h1:=CD (l:=l) λx hx=>h x (Xa _ hx);have h2:=h y Yz;rw[jd,Yb,R7,U5,Uz,V5 (2^(w*l.length))];have h3:2^w*(jd w l+1)≤2^w*2^(w*l.length):=V7 _ h1;rw[R7]at h3;omega
theorem EF {w:Nat}{l:List Nat}{i x:Nat}(h:l[i]? =some x):jd w (l.take (i+1))=jd w (l.take i)+2^(w*i)*x:=by
 have hi:=(Yk.1 h).1;rw[Um,h,R4,xA,Yg,Ug a8]
def Gu (w:Nat) (l:List Nat):List Nat:=leB ((l.length*w+7)/8) (jd w l)
theorem Jy {N T:Nat}(hN:N<2^T):N/256^(T/8)<2^(T%8):=by
 rw[Nat.div_lt_iff_lt_mul (Nat.pow_pos ae),V5,←rC];exact hN
open Go Go.Proofs Tryz
set_option maxRecDepth 100000
section
variable {G:dJ}{H:dD}{q:ByteArray}
theorem wY (x:Nat):SC G prog 279 [.int .u8 (x:Int)] H (λv a=>v=.bool (isD x)∧a=H):=by
 refine sWk func279 ?_;refine gk (k:=dV 3 8 (k:=λh1=>gk (k:=edq)) (q:=go ?_));refine gR ?_;refine⟨_,hsb,?_,rfl⟩;exact vb (by simp only[isD,Uh,Xu,Xq];omega)
theorem Aw (x:Nat):SC G prog 249 [.int .u8 (x:Int)] H (λv a=>v=.bool (isW x)∧a=H):=by
 refine sWk func249 ?_;refine gk (k:=dV 3 8 (k:=λh1=>gk (k:=edq)) (q:=gk (k:=ep 7 16 (k:=λh2=>gk (k:=dV 3 15 (k:=λh3=>gk (k:=edq)) (q:=gk (k:=edq)))) (q:=go ?_))));refine ep 3 20 (k:=λh4=>gk (k:=iU (vs:=[_]) (hc:=(wY x)) (k:=gk (k:=edq)))) (q:=gk (k:=ep 3 24 (k:=λh5=>gk (k:=edq)) (q:=gk (k:=ep 3 28 (k:=λh6=>gk (k:=edq)) (q:=gR ?_)))));refine⟨_,hsb,?_,rfl⟩;exact vb (by simp only[isW,isD,Uh,Xu,Xq];omega)
theorem NM (i:Nat) (hi:i≤1000000000000) (hq:q.size≤1000000000000):SC G prog 250 [.string q,iN i] H (λv c=>v=.bool (lW (dC q) i)∧c=H):=by
 have hl:=dI q;refine sWk func250 ?_;refine gk (k:=ep 6 13 (k:=λh1=>gk (k:=edq)) (q:=go ?_));refine wi_ (k:=λh2=>?_) (m:=λh2=>?_)
 ·refine gR ?_;refine⟨_,hsb,vb ⟨λh=>by(cases h),λh=>?_⟩,rfl⟩;simp only[lW,Xu,Xq]at h;omega
 have b:decide (0<i)=true:=Ys a8;have a:decide (i+1<(dC q).length)=true:=Ys a8;refine go ?_;refine gW (λh3=>?_) λh3=>?_
 ·refine go ?_;refine d1_ rfl (Aw _) (gk (k:=dV 6 30 (k:=λh4=>gk (k:=iU (vs:=[_]) (hc:=(Aw _)) (k:=gk (k:=edq)))) (q:=gR ?_)));refine⟨_,hsb,?_,rfl⟩;rw[lW,b,a,show at0 (dC q) i=39 from a8];simp;rfl
 refine gW (λh5=>?_) λh5=>?_
 ·refine go ?_;refine d1_ rfl (wY _) (gk (k:=dV 6 44 (k:=λh6=>gk (k:=iU (vs:=[_]) (hc:=(wY _)) (k:=gk (k:=edq)))) (q:=gR ?_)));refine⟨_,hsb,?_,rfl⟩;rw[lW,b,a,show at0 (dC q) i=46 from a8];simp;rfl
 refine gR ?_;refine⟨_,hsb,?_,rfl⟩;rw[lW,show decide (at0 (dC q) i=39)=false from Yr a8,show decide (at0 (dC q) i=46)=false from Yr a8];simp;rfl
def eT:Enc Tok:=⟨λt=>[.string (eG t.text),.int .i64 (t.value:Int),.int .i64 (t.pos:Int),.int .i64 (t.st:Int),.int .i64 (t.en:Int)],5,true,λ_=>rfl,λp v h=>by simp at h;rcases h with rfl|rfl|rfl|rfl|rfl <;> rfl,ae,λh=>aK,ae⟩
instance {s:ByteArray}{b c d:Nat}:gP eT (.agg [.string s,.int .i64 0,.int .i64 ((b:Nat):Int),.int .i64 ((c:Nat):Int),.int .i64 ((d:Nat):Int)].toArray) ⟨dC s,0,b,c,d⟩:=⟨by show Value.agg (eT.f _).toArray=_;simp only[eT,jW];rfl⟩
theorem JH (hq:q.size≤1000000000):SC G prog 211 [.string q] H (λv h=>∃s:SV,v=s.val∧h=Row s eT (gy (dC q))::H):=by
 have hl:=dI q;refine sWk func211 ?_;refine go ?_;refine gk (k:=e8 (SV×Nat×(Option Nat)×(List Tok)) (λy=>y.2.1≤q.size+1∧gj (dC q) y.2.1=(y.2.2.1,y.2.2.2)) (λy=>[(3,y.1.val),(4,.int .i64 (stI y.2.2.1)),(5,iN y.2.1)]) [(0,_)] (λy=>[Row y.1 eT y.2.2.2]) _ (λy=>q.size+1-y.2.1) ((SV.nil,0,none, [])) (h0:=?_) (k:=?_))
 ·exact⟨Yl _,rfl⟩
 rintro⟨s,i,a,out⟩ ⟨hi,d⟩
 try dsimp only[Yd,Ye]at*
 have g:=Ak (dC q) i a out d;refine gW (λh1=>?_) λh1=>?_
 ·refine gk (k:=dV 10 27 (k:=λh2=>gk (k:=iU (vs:=[_]) (hc:=(Aw _)) (k:=gk (k:=ep 4 26 (k:=λh3=>gk (k:=iU (vs:=[_,_]) (hc:=(NM i a8 a8)) (k:=gk (k:=edq)))) (q:=gk (k:=edq)))))) (q:=?_));refine e_ (asv (v:=.bool (inW (dC q) i)) rfl (vb (by simp[inW,hl]))) ?_;refine gk (k:=dV 3 33 (k:=λh4=>gk (k:=edq)) (q:=gW (λh5=>?_) (λh5=>?_)))
  ·obtain⟨c,hn⟩:=h5;obtain rfl:=Ge.1 hn;refine go ?_;refine lN ((s,i+1,some i,out)) ?_
   exact⟨a8,mP d c⟩
  refine gk (k:=dV 3 41 (k:=λh6=>gk (k:=edq)) (q:=gW (λf=>?_) (λf=>?_)))
  ·obtain⟨c,hn⟩:=f;obtain⟨b,rfl⟩:∃b,a=some b:=by
    cases a with
    |none=>simp[stI]at hn
    |some b=>exact⟨b,rfl⟩
   have hb:=g.2 b rfl;have hbl:i≤q.size:=a8;dsimp only[stI];refine ws_ (wr_ (e_ mv (e_ mv (e_ mv (e_ mv ?_)))));refine e_ (mK rfl b i ⟨_,_,rfl,rfl⟩ ⟨_,_,rfl,rfl⟩ a8 a8) ?_;refine e_ mv (e_ lnn (e_ mv (e_ mv (e_ (bld [(0,_),(2,_),(3,_),(4,_)]) (fS eT (k:=λs52=>?_))))));refine app (k:=λe=>?_);refine go ?_;refine lN ((e,i+1,none,out++ [⟨dC (q.extract b i),0,out.length,b,i⟩])) ?_
   try dsimp only
   refine⟨a8,?_⟩;rw[iV];exact rq d c
  refine go ?_;refine lN ((s,i+1,a,out)) ?_
  try dsimp only
  refine⟨a8,?_⟩;cases c:inW (dC q) i <;> cases a with
  |none=>first|exact rp d c|(exfalso;simp[c,stI]at*)
  |some b=>first|exact uG d c|(exfalso;simp[c,stI]at* <;> omega)
 obtain rfl:i=q.size+1:=a8;refine gR ?_;refine⟨_,hsb,s,rfl,?_⟩;rw[gy,hl,d]
end
section
variable {G:dJ}{H:dD}{q:ByteArray}
theorem ZE {x:Nat}(h:x<128):(decide (97≤x ||| 32)&&decide (x ||| 32≤122))=(decide (97≤x)&&decide (x≤122) ||decide (65≤x)&&decide (x≤90)):=by
 have:∀y:Fin 128,(decide (97≤y.val ||| 32)&&decide (y.val ||| 32≤122))=(decide (97≤y.val)&&decide (y.val≤122) ||decide (65≤y.val)&&decide (y.val≤90)):=ax;exact this ⟨x,h⟩
theorem xt (x:Nat):SC G prog 200 [.int .u8 (x:Int)] H (λv a=>v=.bool (isD x)∧a=H):=by
 refine sWk func200 ?_;refine gk (k:=dV 3 8 (k:=λh1=>gk (k:=edq)) (q:=go ?_));refine gR ?_;refine⟨_,hsb,?_,rfl⟩;exact vb (by simp only[isD,Uh,Xu,Xq];omega)
theorem AI (x:Nat) (hx:x<256):SC G prog 199 [.int .u8 (x:Int)] H (λv a=>v=.bool (isW x)∧a=H):=by
 refine sWk func199 ?_;refine gk (k:=ep 3 9 (k:=λh1=>gk (k:=edq)) (q:=gk (k:=ep 3 13 (k:=λh2=>gk (k:=iU (vs:=[_]) (hc:=(xt x)) (k:=gk (k:=edq)))) (q:=?_))));refine gW (λh3=>?_) λh3=>?_
 ·refine gR ?_;refine⟨_,hsb,?_,rfl⟩;exact vb (by simp[isW,isD]at* <;> omega)
 refine wk_ (qn_ (ws_ (wr_ (e_ mv ?_))));refine e_ (ku 256 rfl rfl rfl rfl _ 32 rfl rfl hx ae) ?_;refine gk (k:=dV 3 21 (k:=λh4=>gk (k:=edq)) (q:=gR ?_));refine⟨_,hsb,?_,rfl⟩;have h2:=ZE (x:=x) a8;show Value.bool _=_;rw[isW,←h2];exact vb (by simp[isD]at* <;> omega)
theorem tj (i:Nat):at0 (dC q) i<256:=by
 rw[at0,Xj];cases h:(dC q)[i]? with
 |none=>decide
 |some x=>exact lZ q x (Yj h)
theorem OJ (i:Nat) (hi:i<q.size) (hq:q.size≤1000000000000):SC G prog 148 [.string q,iN i] H (λv d=>v=.bool (inW (dC q) i)∧d=H):=by
 have hl:=dI q;have a:decide (i<(dC q).length)=true:=Ys a8;refine sWk func148 ?_;refine go ?_;refine d1_ rfl (AI _ (tj _)) (gW (λh1=>?_) (λh1=>?_))
 ·refine gR ?_;refine⟨_,hsb,?_,rfl⟩;rw[inW,a,h1];rfl
 refine gk (k:=ep 6 19 (k:=λh2=>gk (k:=edq)) (q:=gW (λh3=>?_) (λh3=>?_)))
 ·have hI:lW (dC q) i=false:=by
   rw[lW];rcases(show i=0∨¬(i+1<(dC q).length)from a8)with e|e
   ·rw[show decide (0<i)=false from Yr a8];rfl
   ·rw[show decide (i+1<(dC q).length)=false from Yr e];simp
  refine gR ?_;refine⟨_,hsb,?_,rfl⟩;rw[inW,a,hI,h1];rfl
 have c:decide (0<i)=true:=Ys a8;have b:decide (i+1<(dC q).length)=true:=Ys a8;have hn:isW (at0 (dC q) i)=false:=dt;refine go ?_;refine dX dN (go ?_);refine gW (λh4=>?_) λh4=>?_
 ·refine go ?_;refine d1_ rfl (AI _ (tj _)) (gk (k:=dV 3 37 (k:=λh5=>gk (k:=iU (vs:=[_]) (hc:=(AI _ (tj _))) (k:=gk (k:=edq)))) (q:=gR ?_)));refine⟨_,hsb,?_,rfl⟩;rw[inW,lW,a,c,b,hn,show at0 (dC q) i=39 from a8];simp;rfl
 refine gk (k:=dV 3 45 (k:=λh6=>gk (k:=iU (vs:=[_]) (hc:=(xt _)) (k:=gk (k:=edq)))) (q:=gk (k:=dV 3 49 (k:=λh7=>gk (k:=iU (vs:=[_]) (hc:=(xt _)) (k:=gk (k:=edq)))) (q:=go ?_))));refine gR ?_;refine⟨_,hsb,?_,rfl⟩;rw[inW,lW,a,c,b,hn,show decide (at0 (dC q) i=39)=false from Yr a8];exact vb (by simp at* <;> omega)
theorem Kt (hq:q.size≤1000000000):SC G prog 97 [.string q] H (λv h=>∃s:SV,v=s.val∧h=Row s eT (gy (dC q))::H):=by
 have hl:=dI q;refine sWk func97 ?_;refine go ?_;refine s_ (fk eT rfl) ?_;rintro _ _ ⟨f,rfl,rfl⟩;refine go ?_;refine gk (k:=e8 (SV×Nat×(Option Nat)×(List Tok)) (λy=>y.2.1≤q.size+1∧gj (dC q) y.2.1=(y.2.2.1,y.2.2.2)) (λy=>[(3,y.1.val),(4,.int .i64 (stI y.2.2.1)),(5,iN y.2.1)]) [(0,_)] (λy=>[Row y.1 eT y.2.2.2]) _ (λy=>q.size+1-y.2.1) ((f,0,none, [])) (h0:=?_) (k:=?_))
 ·exact⟨Yl _,rfl⟩
 rintro⟨s,i,a,out⟩ ⟨hi,d⟩
 try dsimp only[Yd,Ye]at*
 have g:=Ak (dC q) i a out d;refine gW (λh1=>?_) λh1=>?_
 ·refine gk (k:=dV 4 22 (k:=λh2=>gk (k:=iU (vs:=[_,_]) (hc:=(OJ i a8 a8)) (k:=gk (k:=edq)))) (q:=?_));refine e_ (asv (v:=.bool (inW (dC q) i)) rfl (vb (by simp[inW,hl]))) ?_;refine gk (k:=dV 3 27 (k:=λh3=>gk (k:=edq)) (q:=gW (λh4=>?_) (λh4=>?_)))
  ·obtain⟨c,hn⟩:=h4;obtain rfl:=Ge.1 hn;rw[c];refine go ?_;refine gk (k:=fM (k:=go ?_));refine lN ((s,i+1,some i,out)) ?_
   exact⟨a8,mP d c⟩
  refine gk (k:=dV 3 34 (k:=λh5=>gk (k:=edq)) (q:=gk (k:=ir_ (k:=λh6=>?_) (m:=λh6=>?_))))
  ·simp only[Xu,Uf,Xq]at h6;obtain⟨c,hn⟩:=h6;obtain⟨b,rfl⟩:∃b,a=some b:=by
    cases a with
    |none=>simp_all [stI]
    |some b=>exact⟨b,rfl⟩
   have hb:=g.2 b rfl;have hbl:i≤q.size:=a8;dsimp only[stI];refine ws_ (wr_ (e_ mv (e_ mv (e_ mv (e_ mv ?_)))));refine e_ (mK rfl b i ⟨_,_,rfl,rfl⟩ ⟨_,_,rfl,rfl⟩ a8 a8) ?_;refine e_ mv (e_ lnn (e_ mv (e_ mv (e_ (bld [(0,_),(2,_),(3,_),(4,_)]) (fS eT (k:=λs45=>?_))))));refine app (k:=λe=>?_);refine go ?_;refine lN ((e,i+1,none,out++ [⟨dC (q.extract b i),0,out.length,b,i⟩])) ?_
   try dsimp only
   refine⟨a8,?_⟩;rw[iV];exact rq d c
  refine go ?_;refine lN ((s,i+1,a,out)) ?_
  try dsimp only
  refine⟨a8,?_⟩;cases c:inW (dC q) i <;> cases a with
  |none=>first|exact rp d c|(exfalso;simp[c,stI]at*)
  |some b=>first|exact uG d c|(exfalso;simp[c,stI]at* <;> omega)
 obtain rfl:i=q.size+1:=a8;refine gR ?_;refine⟨_,hsb,s,rfl,?_⟩;rw[gy,hl,d]
end
section
variable {G:dJ}{H:dD}{e q:ByteArray}
theorem vB (q:ByteArray) (k:Nat):dC (q.extract k q.size)=(dC q).drop k:=by
 rw[iV,Xr (by rw[dI];exact Xl _)]
theorem ij (q:ByteArray) (k:Nat):dC (q.extract 0 k)=(dC q).take k:=by
 rw[iV,Va]
theorem jS (q:ByteArray):dC (q.extract 0 (q.size-1))=eA (dC q):=by rw[ij,eA,dI]
theorem Fo (q:ByteArray) (k:Nat):(q.extract 0 k).size≤q.size:=by
 have:=dI (q.extract 0 k);rw[ij,Yg,dI]at this;omega
theorem y5 (hq:q.size≤1000000000000) (he:e.size≤1000000000000):SC G prog 346 [.string q,.string e] H (λv a=>v=.bool (dZ (dC q) (dC e))∧a=H):=by
 refine sWk func346 ?_;refine gk (k:=dV 10 20 (k:=λh1=>gk (k:=eg_ I0 (gk (k:=eg_ tH (gk (k:=edq)))))) (q:=?_));refine gR ?_;exact⟨_,hsb,vb (by simp[dZ,vB,dI]),rfl⟩
theorem mS (a:q.size≤1000000000000) (he:e.size≤1000000000000):SC G prog 338 [.string q,.string e] H (λv b=>v=.bool (dZ (dC q) (dC e))∧b=H):=by
 refine sWk func338 ?_;refine go ?_;refine d2_ rfl (y5 a he) (gR ?_);exact⟨_,hsb,rfl,rfl⟩
theorem jZ (hq:q.size≤1000000000000) (he:e.size≤1000000000000):SC G prog 236 [.string q,.string e] H (λv a=>v=.bool (dZ (dC q) (dC e))∧a=H):=by
 refine sWk func236 ?_;refine gk (k:=dV 10 20 (k:=λh1=>gk (k:=eg_ I0 (gk (k:=eg_ tH (gk (k:=edq)))))) (q:=?_));refine gR ?_;exact⟨_,hsb,vb (by simp[dZ,vB,dI]),rfl⟩
theorem Iy (hq:q.size≤1000000000000) (he:e.size≤1000000000000):SC G prog 299 [.string q,.string e] H (λv a=>v=.bool (lz (dC q) (dC e))∧a=H):=by
 refine sWk func299 ?_;refine gk (k:=dV 7 17 (k:=λh1=>gk (k:=eg_ tE (gk (k:=eg_ tH (gk (k:=edq)))))) (q:=?_));refine gR ?_;exact⟨_,hsb,vb (by simp[lz,ij,dI]),rfl⟩
def tf (q e:ByteArray):ByteArray:=bif lz (dC q) (dC e)then q.extract e.size q.size else q
def kT (q e:ByteArray):ByteArray:=bif dZ (dC q) (dC e)then q.extract 0 (q.size-e.size)else q
theorem FB (a:q.size≤1000000000000) (he:e.size≤1000000000000):SC G prog 277 [.string q,.string e] H (λv b=>v=.tuple #[.string (tf q e),.bool (lz (dC q) (dC e))]∧b=H):=by
 refine sWk func277 ?_;refine go ?_;refine d2_ rfl (Iy a he) (gW (λh1=>?_) (λh1=>?_))
 ·refine gR ?_;exact⟨_,hsb,by rw[tf,h1];rfl,rfl⟩
 have hle:e.size≤q.size:=by have:=h1;simp[lz,dI]at this;omega
 refine gk (k:=e_ I0 (gR ?_));exact⟨_,hsb,by rw[tf,h1];rfl,rfl⟩
theorem IX (a:q.size≤1000000000000) (he:e.size≤1000000000000):SC G prog 245 [.string q,.string e] H (λv b=>v=.tuple #[.string (tf q e),.bool (lz (dC q) (dC e))]∧b=H):=by
 refine sWk func245 ?_;refine go ?_;refine d2_ rfl (FB a he) (gR ?_);exact⟨_,hsb,rfl,rfl⟩
theorem FA (a:q.size≤1000000000000) (he:e.size≤1000000000000):SC G prog 355 [.string q,.string e] H (λv b=>v=.tuple #[.string (kT q e),.bool (dZ (dC q) (dC e))]∧b=H):=by
 refine sWk func355 ?_;refine go ?_;refine d2_ rfl (y5 a he) (gW (λh1=>?_) (λh1=>?_))
 ·refine gR ?_;exact⟨_,hsb,by rw[kT,h1];rfl,rfl⟩
 have hle:e.size≤q.size:=by have:=h1;simp[dZ,dI]at this;omega
 refine gk (k:=e_ tE (go ?_));refine gR ?_;exact⟨_,hsb,by rw[kT,h1];rfl,rfl⟩
theorem A1 (a:q.size≤1000000000000) (he:e.size≤1000000000000):SC G prog 347 [.string q,.string e] H (λv b=>v=.tuple #[.string (kT q e),.bool (dZ (dC q) (dC e))]∧b=H):=by
 refine sWk func347 ?_;refine go ?_;refine d2_ rfl (FA a he) (gR ?_);exact⟨_,hsb,rfl,rfl⟩
theorem Fg (x:Nat):SC G prog 357 [.string q,.int .u8 (x:Int)] H (λv a=>v=.int .i64 (ixR q x)∧a=H):=by
 refine sWk func357 ?_;refine go ?_;refine s_ (Ss (vs:= [_,_]) func358 aa rfl aa aa rfl (λw=>On q x w)) ?_;rintro _ _ ⟨rfl,rfl⟩;exact gZ
theorem indexByte (x:Nat):SC G prog 354 [.string q,.int .u8 (x:Int)] H (λv a=>v=.int .i64 (ixR q x)∧a=H):=by
 refine sWk func354 ?_;refine go ?_;refine d2_ rfl (Fg x) (gR ?_);exact⟨_,hsb,rfl,rfl⟩
end
section
variable {G:dJ}{H:dD}{q:ByteArray}
theorem wg (hq:q.size≤1000000000):SC G prog 356 [.string q] H (λv f=>∃s:SV,v=s.val∧f=Row s eBo (vow (dC q))::H):=by
 have hl:=dI q;refine sWk func356 ?_;refine go ?_;refine s_ (gn eBo false rfl rfl _ _ rfl rfl rfl a8 a8 a8) ?_;rintro _ _ ⟨c,rfl,hs7n,hs7c,rfl⟩;have d:dH (Row c eBo (List.replicate q.size false)::H) (Row c eBo (qB (dC q) 0)::H):=by rw[HE,hl];exact dH.refl
 refine gk (k:=e8 Nat (λy=>y≤q.size) (λy=>[(10,iN y)]) [(0,_),(3,_),(9,_)] (λy=>[Row c eBo (qB (dC q) y)]) H (λy=>q.size-y) (0) (hh:=?_) (h0:=?_) (k:=?_))
 ·exact d
 ·exact Yl _
 rintro i hi
 try dsimp only[Yd,Ye]at*
 have hp:=vH (w:=dC q) (i:=i) a8;refine gW (λh1=>?_) λh1=>?_
 ·have a:i<(dC q).length:=by simp at h1;omega
  refine wk_ (qn_ (ws_ (wb_ (ws_ (wr_ (e_ mv (e_ asn (on_ (qn_ (ws_ (wr_ (e_ mv (e_ mv ?_)))))))))))));refine e_ ixs (on_ (qn_ (wb_ (ld [(16,.bool (isV (at0 (dC q) i)))] [16,17,18,19,20,21] ?_ ?_))))
  ·refine gW (λh2=>?_) λh2=>?_
   ·refine gk (k:=jne (hs:=.cons (by first|exact rfl|exact jb (by refine bq ?_;simp[isV];omega)) (.nil)))
   refine gW (λh3=>?_) λh3=>?_
   ·refine gk (k:=jne (hs:=.cons (by first|exact rfl|exact jb (by refine bq ?_;simp[isV];omega)) (.nil)))
   refine gW (λh4=>?_) λh4=>?_
   ·refine gk (k:=jne (hs:=.cons (by first|exact rfl|exact jb (by refine bq ?_;simp[isV];omega)) (.nil)))
   refine gW (λh5=>?_) λh5=>?_
   ·refine gk (k:=jne (hs:=.cons (by first|exact rfl|exact jb (by refine bq ?_;simp[isV];omega)) (.nil)))
   refine gk (k:=jne (hs:=.cons (by first|exact rfl|exact jb (by refine bq ?_;simp[isV];omega)) (.nil)))
  refine wi_ (k:=λh6=>?_) (m:=λh6=>?_)
  ·refine wr_ (e_ mv (e_ mv ?_));refine e_ (er rfl rfl i rfl a8) ?_;refine s_ (et rfl rfl rfl a8) ?_;rintro _ _ ⟨rfl,rfl⟩;rw[wS a (b:=true) (by rw[vAt,h6];rfl)];refine go ?_;refine lN (i+1) ?_
   try dsimp only
   omega
  refine ws_ (wr_ (e_ ieq (e_ asn (on_ (qn_ (wi_ (k:=λe=>?_) (m:=λe=>?_)))))))
  ·refine wr_ (e_ mv (e_ mv (e_ mv (e_ igt (e_ mv (dV 7 38 (k:=λh8=>eg_ mv (eg_ mv (eg_ isb (eg_ ixa (eg_ (lel (hy:=Js a8 a8)) (eg_ mN (e_ pkt (on_ edq)))))))) (q:=?_)))))));refine e_ (er rfl rfl i rfl a8) ?_;refine s_ (et rfl rfl rfl a8) ?_;rintro _ _ ⟨rfl,rfl⟩;rw[wS a (by rw[vAt,h6,Ys (show at0 (dC q) i=121 from a8)];simp)];refine go ?_;refine lN (i+1) ?_
   try dsimp only
   omega
  rw[HF a (by rw[vAt,h6,Yr (show ¬at0 (dC q) i=121 from a8)];rfl)];refine go ?_;refine lN (i+1) ?_
  try dsimp only
  omega
 obtain rfl:i=q.size:=by simp at h1;omega
 refine gR ?_;refine⟨_,hsb,c,rfl,?_⟩;rw[←hl,Jt]
theorem BX (c:q.size≤1000000000):SC G prog 348 [.string q] H (λv d=>v=.int .i64 (iT (dC q):Nat)∧d=H):=by
 have hl:=dI q;have hv:=fZ (dC q);refine sWk func348 ?_;refine go ?_;refine c1_ rfl (wg c) ?_;rintro _ _ ⟨sv,rfl,rfl⟩;refine gk (k:=e8 (Nat×Nat) (λy=>1≤y.1∧(y.1≤q.size∨y.1=1)∧y.2=nV (vow (dC q)) y.1) (λy=>[(3,iN y.2),(5,iN y.1)]) [(4,_)] (λy=>[]) _ (λy=>q.size-y.1) ((1,0)) (h0:=?_) (k:=?_))
 ·exact⟨Xl _,.inr rfl,(rG _).symm⟩
 rintro⟨i,m⟩ ⟨h1i,hi,b⟩
 try dsimp only[Yd,Ye]at*
 have hm:=xM (vow (dC q)) i;refine gW (λh1=>?_) λh1=>?_
 ·have hlt:i<(dC q).length:=by omega
  have a:nV (vow (dC q)) (i+1)=nV (vow (dC q)) i+(bif (vow (dC q)).getD (i-1) false&&!((vow (dC q)).getD i false)then 1 else 0):=by rw[nV,Ys (show 0<i from a8),Xv]
  refine wk_ (qn_ (ws_ (wb_ (ws_ (wr_ (e_ mv (e_ mv (e_ isb (e_ ixa (e_ (lel (hy:=jL a8)) (e_ mv (dV 6 25 (k:=λh2=>eg_ mv (eg_ mv (eg_ ixa (eg_ (lel (hy:=jL a8)) (eg_ mN (e_ pkt (on_ edq))))))) (q:=on_ ?_)))))))))))));refine gk (k:=ir_ (k:=λh3=>?_) (m:=λh3=>?_))
  ·rw[h3]at a;refine go ?_;refine lN ((i+1,m+1)) ?_
   try dsimp only
   refine⟨a8,a8,?_⟩;rw[a,b];rfl
  rw[h3]at a;refine go ?_;refine lN ((i+1,m)) ?_
  try dsimp only
  refine⟨a8,a8,?_⟩;rw[a,b];rfl
 refine gR ?_;refine⟨_,hsb,?_,rfl⟩;rw[iT,b];rcases Un q.size with h0|h0
 ·obtain rfl:i=1:=by omega
  rw[hl,h0,rG];rfl
 ·obtain rfl:i=q.size:=by omega
  rw[hl];rfl
theorem QK (c:q.size≤1000000000):SC G prog 352 [.string q] H (λv d=>v=.bool (sY (dC q))∧d=H):=by
 have hv:=fZ (dC q);have hl:=dI q;refine sWk func352 ?_;refine go ?_;refine c1_ rfl (wg c) ?_;rintro _ _ ⟨sv,rfl,rfl⟩;refine gk (k:=e8 Nat (λy=>y≤q.size∧∀j,j<y→(vow (dC q))[j]? =some false) (λy=>[(8,iN y)]) [(6,_),(7,_)] (λy=>[]) _ (λy=>q.size-y) (0) (h0:=?_) (k:=?_))
 ·exact⟨Yl _,λj hj=>absurd hj (Up _)⟩
 rintro i ⟨hi,a⟩
 try dsimp only[Yd,Ye]at*
 refine gW (λh1=>?_) λh1=>?_
 ·refine wk_ (qn_ (ws_ (wb_ (ws_ (wr_ (e_ ixa (e_ (lel (hy:=jL a8)) (go ?_))))))));refine gW (λh2=>?_) λh2=>?_
  ·have b:=jL (w:=dC q) (i:=i) a8;rw[h2]at b;refine gR ?_;exact⟨_,hsb,by rw[sY,DO b];rfl,rfl⟩
  have b:=jL (w:=dC q) (i:=i) a8;rw[h2]at b;refine go ?_;refine lN (i+1) ?_
  try dsimp only
  refine⟨a8,λj hj=>?_⟩
  by_cases e:j=i
  ·subst e;exact b
  ·exact a j a8
 refine gR ?_;exact⟨_,hsb,by rw[sY,Ac (λj hj=>a j a8)];rfl,rfl⟩
theorem NS {G:dJ}{H:dD}{q:ByteArray}(hq:q.size≤1000000000):SC G prog 353 [.string q] H (λv H'=>v=.bool (om (dC q))∧H'=H):=by
 have hv:=fZ (dC q);have hl:=dI q;refine sWk func353 ?_;refine ws_ (wr_ (e_ asn (k:=on_ (qn_ (ws_ (wr_ (e_ mv (k:=e_ xO (k:=e_ asn (k:=on_ (qn_ (ws_ (?_)))))))))))));refine wD [15] (λ_ _=>True) (aF 0 (k:=aF 1 (k:=?_)));refine fH 2 rfl rfl (aa) rfl (ea λH hH=>mv) (λh1=>?_) (λh1=>?_)
 ·replace h1:=nrm h1;have e1:decide (2≤(dC q).length)=true:=Ys (a8);refine ag_ 3 (q:=ea λH hH=>mv) (k:=ag_ 4 (q:=ea λH hH=>mv) (k:=ag_ 5 (q:=ea λH hH=>isb) (k:=ag_ 6 (q:=ea λH hH=>ixs) (k:=ag_ 7 (q:=ea λH hH=>mv) (k:=ag_ 8 (q:=ea λH hH=>mv) (k:=ag_ 9 (q:=ea λH hH=>isb) (k:=ag_ 10 (q:=ea λH hH=>ixs) (k:=ag_ 11 (q:=ea λH hH=>ieq) (k:=aF 12 (k:=?_))))))))));refine fH 13 rfl rfl (aa) rfl (ea λH hH=>mv) (λh2=>?_) (λh2=>?_)
  ·replace h2:=nrm h2;have e2:decide (at0 (dC q) ((dC q).length-1)=at0 (dC q) ((dC q).length-2))=true:=Ys (cP);refine ag_ 14 (q:=ea λH hH=>mv) (k:=ag_ 16 (q:=ea λH hH=>mv) (k:=ag_ 17 (q:=ea λH hH=>isb) (k:=?_)));refine FE 15 rfl rfl rfl (aa) rfl (λ_ _=>trivial) (v1_ (wg hq)) ?_;rintro _ _ ⟨sv,rfl,rfl⟩;refine uB (λ_=>trivial) (at2 18 (q:=ixa) (k:=at2 19 (q:=lel (hy:=jL (a8))) (k:=gR ?_)));exact⟨_,hsb,by rw[om,e1,e2,hl];rfl,rfl⟩
  replace h2:=nrm h2;have hD:om (dC q)=false:=by rw[om,e1,Yr (show ¬at0 (dC q) ((dC q).length-1)=at0 (dC q) ((dC q).length-2)from cP)];rfl
  refine ao_ 14 (k:=ao_ 16 (k:=ao_ 17 (k:=w4 15 rfl rfl rfl (aa) rfl (λ_ _=>trivial) (uB (λ_=>trivial) (ao_ 18 (k:=ao_ 19 (k:=ao_ 20 (k:=as_ 21 (q:=pkf) (k:=as_ 22 (q:=asn) (k:=az_ (k:=qn_ (wt_ (rT (k:=?_))))))))))))));exact⟨_,hsb,by rw[hD];rfl,rfl⟩
 replace h1:=nrm h1;have e1:decide (2≤(dC q).length)=false:=Yr (a8);have hD:om (dC q)=false:=by rw[om,e1];rfl
 refine ao_ 3 (k:=ao_ 4 (k:=ao_ 5 (k:=ao_ 6 (k:=ao_ 7 (k:=ao_ 8 (k:=ao_ 9 (k:=ao_ 10 (k:=ao_ 11 (k:=aF 12 (k:=aF 13 (k:=ao_ 14 (k:=ao_ 16 (k:=ao_ 17 (k:=?_))))))))))))));refine w4 15 rfl rfl rfl (aa) rfl (λ_ _=>trivial) (uB (λ_=>trivial) (ao_ 18 (k:=ao_ 19 (k:=ao_ 20 (k:=as_ 21 (q:=pkf) (k:=as_ 22 (q:=asn) (k:=az_ (k:=qn_ (wt_ (rT (k:=?_)))))))))));exact⟨_,hsb,by rw[hD];rfl,rfl⟩
theorem JL (a:q.size≤1000000000):SC G prog 349 [.string q] H (λv d=>v=.bool (iX (dC q))∧d=H):=by
 have hv:=fZ (dC q);have hl:=dI q;refine sWk func349 ?_;refine go ?_;refine gk (k:=ep 7 16 (k:=λh1=>gk (k:=iU (vs:=[_,_]) (hc:=(indexByte _)) (k:=gk (k:=edq)))) (q:=gW (λh2=>?_) (λh2=>?_)))
 ·have b:iX (dC q)=false:=by
   rw[iX];rcases h2 with h3|h3
   ·rw[Yr (show ¬3≤(dC q).length from a8)];rfl
   ·have hx:=(pS (q:=⟨#[119,120,121]⟩) (x:=at0 (dC q) (q.size-1)) (tj _)).1 h3;have:at0 (dC q) ((dC q).length-1)=119∨at0 (dC q) ((dC q).length-1)=120∨at0 (dC q) ((dC q).length-1)=121:=by rw[hl];rw[show dC ⟨#[119,120,121]⟩= [119,120,121]from rfl]at hx;simpa using hx
    rcases this with h|h|h <;> simp[h]
  refine gR ?_;exact⟨_,hsb,by rw[b];rfl,rfl⟩
 obtain⟨h3,h4⟩:=h2;have c:decide (3≤(dC q).length)=true:=Ys a8;have hx:¬at0 (dC q) (q.size-1)∈dC ⟨#[119,120,121]⟩:=λh=>h4 ((pS (tj _)).2 h);have hn:(decide (at0 (dC q) ((dC q).length-1)=119) ||decide (at0 (dC q) ((dC q).length-1)=120) ||decide (at0 (dC q) ((dC q).length-1)=121))=false:=by
  rw[show dC ⟨#[119,120,121]⟩= [119,120,121]from rfl]at hx;rw[hl];simp at hx⊢;omega
 refine go ?_;refine c1_ rfl (wg a) ?_;rintro _ _ ⟨sv,rfl,rfl⟩;refine e_ asn (on_ (qn_ (ws_ (wr_ (e_ mv (e_ mv (e_ isb (e_ ixa (e_ (lel (hy:=jL a8)) (e_ mN (e_ mv (dV 6 31 (k:=λh3=>eg_ mv (eg_ mv (eg_ isb (eg_ ixa (eg_ (lel (hy:=jL a8)) (e_ pkt (on_ edq))))))) (q:=e_ mv ?_)))))))))))));refine dV 7 39 (k:=λh4=>eg_ mv (eg_ mv (eg_ isb (eg_ ixa (eg_ (lel (hy:=jL a8)) (gk (k:=edq))))))) (q:=gR ?_);refine⟨_,hsb,?_,rfl⟩;rw[iX,c,hn,hl];rfl
end
section
variable {G:dJ}{H:dD}{q:ByteArray}{rs:List ik}{s:SV}{strs:List ByteArray}
def sK (rs:List ik) (q r:ByteArray) (a:Int):Prop:=match fq rs (dC q)with
 |none=>r=q∧a= -1
 |some R=>∃k,rs[k]? =some R∧a=((2*k:Nat):Int)∧dZ (dC q) R.1=true∧dC r=mM (dC q) R.1∧r.size+R.1.length=q.size
theorem tv [hs:Sl H s eS strs] (hr:ki strs rs) (hq:q.size≤1000000000) (hn:rs.length≤1000) (u:∀r∈rs,r.1.length≤1000∧r.2.length≤1000):SC G prog 350 [.string q,s.val] H (λv E=>∃r a,v=.tuple #[.string r,.int .i64 a]∧sK rs q r a∧E=H):=by
 have hl:=dI q;have hsl:=hr.length;refine sWk func350 ?_;refine go ?_;refine gk (k:=e8 (Nat×(Option (Nat×ik))) (λy=>y.1≤rs.length∧(rs.take y.1).foldl (oJ (dC q)) none=y.2.map Prod.snd∧∀p,y.2=some p→rs[p.1]? =some p.2∧dZ (dC q) p.2.1=true) (λy=>[(6,.int .i64 (atI y.2)),(7,iN (2*y.1))]) [(0,_),(1,_)] (λy=>[]) _ (λy=>rs.length-y.1) ((0,none)) (h0:=?_) (k:=?_))
 ·exact⟨Yl _,rfl,λp h=>bx⟩
 rintro⟨n,o⟩ ⟨hnl,l,z⟩
 try dsimp only[Yd,Ye]at*
 refine gW (λh1=>?_) λh1=>?_
 ·obtain⟨R,t⟩:=gE rs n;obtain⟨e,e2,he,j,he2,heb2⟩:=hr.get t;obtain⟨hR1,hR2⟩:=u R (Yj t);have B:=dI e;rw[j]at B;have c:=tW (w:=dC q) t;rw[l]at c;refine wk_ (qn_ (ws_ (wb_ (ld [(36,.bool (lsC (dC q) (o.map Prod.snd) R))] [14,15,16,17,18,19,20,21,22,23,24,25,26,27,28,29,30,31,32,33,34,35,36] ?_ ?_))))
  ·refine dX dN (as_ 0 (q:=mv) (k:=as_ 1 (q:=mv) (k:=as_ 2 (q:=mv) (k:=as_ 3 (q:=ixa) (k:=as_ 4 (q:=lel) (k:=?_))))));refine dS 5 rfl rfl aa rfl (iR (vs:= [_,_]) rfl (mS a8 a8)) ?_;refine fH 6 rfl rfl aa rfl (ey mv) (λh2=>?_) (λh2=>?_)
   ·replace h2:=nrm h2;rw[j]at h2;refine at2 7 (q:=mv) (k:=at2 8 (q:=ilt) (k:=?_));refine o9 9 rfl rfl rfl rfl aa rfl (ey mv) (λh3=>?_) (λh3=>?_)
    ·replace h3:=nrm h3;obtain rfl:=Hr.1 h3;refine go ?_;refine jne (hs:=.cons cO (.nil))
    replace h3:=nrm h3;obtain⟨p,rfl⟩:∃p,o=some p:=by
     cases o with
     |none=>simp[atI]at h3
     |some p=>exact⟨p,rfl⟩
    obtain⟨b,g⟩:=z p rfl;have hpl:=(Yk.1 b).1;obtain⟨f,C,A,i,_⟩:=hr.get b;have d:=dI f;rw[i]at d;dsimp only[atI];refine go ?_;refine jne (hs:=.cons cO (.nil))
   replace h2:=nrm h2;refine go ?_;refine gk (k:=jne (hs:=.cons cO (.nil)))
  refine wi_ (k:=λh4=>?_) (m:=λh4=>?_)
  ·rw[oJ,h4]at c;refine go ?_;refine lN ((n+1,some (n,R))) ?_
   try dsimp only
   refine⟨a8,c,λp hp=>?_⟩;cases hp;refine⟨t,?_⟩;simp only[lsC,Xu]at h4;exact h4.1
  rw[oJ,h4]at c;refine go ?_;refine lN ((n+1,o)) ?_
  exact⟨a8,c,z⟩
 obtain rfl:n=rs.length:=a8;rw[Xr (Xl _)]at l;refine gW (λh5=>?_) λh5=>?_
 ·obtain rfl:=Hr.1 h5;refine gR ?_;exact⟨_,hsb,q, -1,rfl,by rw[sK,fq,l];exact⟨rfl,rfl⟩,rfl⟩
 obtain⟨p,rfl⟩:∃p,o=some p:=by
  cases o with
  |none=>simp[atI]at h5
  |some p=>exact⟨p,rfl⟩
 obtain⟨b,g⟩:=z p rfl;have hpl:=(Yk.1 b).1;obtain⟨f,C,A,i,_⟩:=hr.get b;have d:=dI f;rw[i]at d;have hle:=nA g;dsimp only[atI];refine gk (k:=e_ tE ?_);refine gR ?_;refine⟨_,hsb,q.extract 0 (q.size-f.size),_,rfl,?_,rfl⟩;have x:=dI (q.extract 0 (q.size-f.size));rw[ij,Yg]at x;rw[sK,fq,l];exact⟨p.1,b,rfl,g,by rw[ij,mM,hl,d],a8⟩
theorem wX {most:Nat} [hs:Sl H s eS strs] (hr:ki strs rs) (hq:q.size≤100000000) (hn:rs.length≤1000) (c:∀r∈rs,r.1.length≤1000∧r.2.length≤1000):SC G prog 351 [.string q,s.val,iN most] H (λv t=>∃r,v=.string r∧dC r=gQ rs most (dC q)∧t=H):=by
 have hl:=dI q;have hsl:=hr.length;refine sWk func351 ?_;refine go ?_;refine c2_ rfl (tv hr a8 hn c) ?_;rintro _ _ ⟨r,a,rfl,hL,rfl⟩;have hrq:r.size≤q.size:=by
  rw[sK]at hL;cases h:fq rs (dC q)with
  |none=>rw[h]at hL;rw[hL.1];exact Xl _
  |some R=>rw[h]at hL;obtain⟨k,_,_,_,_,h5⟩:=hL;omega
 refine gk (k:=ep 5 22 (k:=λh1=>gk (k:=iU (vs:=[_]) (hc:=(BX a8)) (k:=gk (k:=edq)))) (q:=?_));refine gW (λh2=>?_) λh2=>?_
 ·have i:gQ rs most (dC q)=dC q:=by
   rw[sK]at hL;rw[gQ];cases h:fq rs (dC q)with
   |none=>rfl
   |some R=>
    rw[h]at hL;obtain⟨k,h1,h2,h3,h4,h5⟩:=hL;simp only;rw[←h4,Yr a8];rfl
  refine gR ?_;exact⟨_,hsb,q,rfl,i.symm,rfl⟩
 obtain⟨R,k,h1,rfl,h3,h4,h5,h6⟩:∃R k,rs[k]? =some R∧a=((2*k:Nat):Int)∧dZ (dC q) R.1=true∧dC r=mM (dC q) R.1∧r.size+R.1.length=q.size∧fq rs (dC q)=some R:=by
  rw[sK]at hL;cases h:fq rs (dC q)with
  |none=>rw[h]at hL;obtain⟨_,e⟩:=hL;omega
  |some R=>rw[h]at hL;obtain⟨k,p,n,m,l,j⟩:=hL;exact⟨R,k,p,n,m,l,j,rfl⟩
 obtain⟨f,g,hf1,hfb,hf2,b⟩:=hr.get h1;have d:=dI g;rw[b]at d;obtain⟨_,hz⟩:=c R (Yj h1);have hkl:=(Yk.1 h1).1;refine wk_ (qn_ (ws_ (wr_ (e_ mv (e_ mv (e_ mv (e_ iad ?_)))))));refine e_ (er rfl rfl (2*k+1) a8 a8) ?_;refine gk (k:=e_ I4 (gR ?_));refine⟨_,hsb,r++g,rfl,?_,rfl⟩;rw[fG,b,h4,gQ,h6];simp only;rw[←h4,Ys a8];rfl
end
section
variable {G:dJ}{H:dD}{a:Int}{q r:ByteArray}{rs:List ik}
theorem pP (h:sK rs q r a) (ha:¬a<0):∃R k,rs[k]? =some R∧a=((2*k:Nat):Int)∧dZ (dC q) R.1=true∧dC r=mM (dC q) R.1∧r.size+R.1.length=q.size∧fq rs (dC q)=some R:=by
 rw[sK]at h;cases hl:fq rs (dC q)with
 |none=>rw[hl]at h;obtain⟨_,e⟩:=h;omega
 |some R=>rw[hl]at h;obtain⟨k,g,f,d,c,b⟩:=h;exact⟨R,k,g,f,d,c,b,rfl⟩
theorem pQ (h:sK rs q r a) (ha:a<0):r=q∧fq rs (dC q)=none:=by
 rw[sK]at h;cases hl:fq rs (dC q)with
 |none=>rw[hl]at h;exact⟨h.1,rfl⟩
 |some R=>rw[hl]at h;obtain⟨k,g1,g2,_⟩:=h;omega
theorem WE:ki ((jH jl).map eG) jl:=ra ax
theorem WD:ki ((jH lg).map eG) lg:=ra ax
theorem ZA:ki ((jH jC).map eG) jC:=ra ax
theorem Zz:ki ((jH kr).map eG) kr:=ra ax
theorem SE:ki ((jH gq).map eG) gq:=ra ax
theorem uO {l:List Nat}{k:Nat}(h:dC r=l) (hl:l.length≤(dC q).length+k):r.size≤q.size+k:=by
 rw[←dI r,←dI q,h];exact hl
theorem NI (hq:q.size≤10000000):SC G prog 345 [.string q] H (λv f=>∃r,v=.string r∧dC r=ja (dC q)∧f=H):=by
 refine sWk func345 ?_;refine go ?_;refine s_ (ek eS ((jH jl).map eG) bH rfl ax) ?_;rintro _ _ ⟨s7,rfl,rfl⟩;refine c2_ rfl (tv WE a8 ae ae) ?_;rintro _ _ ⟨r,a,rfl,hL,rfl⟩;refine go ?_;refine wi_ (k:=λh1=>?_) (m:=λh1=>?_)
 ·obtain⟨rfl,hN⟩:=pQ hL h1;refine gR ?_;exact⟨_,hsb,r,rfl,by rw[ja,hN],rfl⟩
 obtain⟨R,k,b,rfl,g3,e,g5,d⟩:=pP hL h1;have hk:=(Yk.1 b).1;have hk4:k<4:=hk;have c:(jl.map λr=>eG r.2)[k]? =some (eG R.2):=by rw[Xd,b];rfl
 have hR:R.2.length≤10:=(show ∀r∈jl,r.2.length≤10 from ae) R (Yj b);have hz:=j9 R.2;refine go ?_;refine s_ (ek eS (jl.map λr=>eG r.2) bH rfl ax) ?_;rintro _ _ ⟨s15,rfl,rfl⟩;refine e_ mv ?_;refine e_ (fX rfl rfl (2*k) 2 rfl rfl ae ai) ?_;rw[show 2*k/2=k from a8];refine e_ (er rfl rfl k rfl (by rw[Yh];exact hk)) ?_;refine e_ (gT rfl bH bH _ c) ?_;refine e_ I4 (gR ?_);refine⟨_,hsb,r++eG R.2,rfl,?_,rfl⟩;rw[fG,e,ja,d,fD];exact(show ∀r∈jl,∀x∈r.2,x<256 from ae) R (Yj b)
theorem RE (hq:q.size≤10000000):SC G prog 342 [.string q] H (λv a=>∃r,v=.string r∧dC r=gQ jC 0 (dC q)∧a=H):=by
 refine sWk func342 ?_;refine go ?_;refine s_ (ek eS ((jH jC).map eG) bH rfl ax) ?_;rintro _ _ ⟨s4,rfl,rfl⟩;refine c3_ rfl (wX (most:=0) ZA a8 ae ae) ?_;rintro _ _ ⟨r,rfl,hr,rfl⟩;refine gR ?_;exact⟨_,hsb,r,rfl,hr,rfl⟩
theorem RD (hq:q.size≤10000000):SC G prog 341 [.string q] H (λv a=>∃r,v=.string r∧dC r=gQ kr 0 (dC q)∧a=H):=by
 refine sWk func341 ?_;refine go ?_;refine s_ (ek eS ((jH kr).map eG) bH rfl ax) ?_;rintro _ _ ⟨s4,rfl,rfl⟩;refine c3_ rfl (wX (most:=0) Zz a8 ae ae) ?_;rintro _ _ ⟨r,rfl,hr,rfl⟩;refine gR ?_;exact⟨_,hsb,r,rfl,hr,rfl⟩
theorem RC (hq:q.size≤10000000):SC G prog 340 [.string q] H (λv p=>∃r,v=.string r∧dC r=mZ (dC q)∧p=H):=by
 refine sWk func340 ?_;refine ws_ (wr_ (e_ asn (on_ (qn_ (ws_ (wr_ ?_))))));refine s_ (ek eS ((jH gq).map eG) bH rfl ax) ?_;rintro _ _ ⟨s6,rfl,rfl⟩;refine e_ asn (on_ (qn_ (ws_ (wr_ (e_ mv (e_ mv ?_))))));refine c2_ rfl (tv SE a8 ae ae) ?_;rintro _ _ ⟨r,a,rfl,hL,rfl⟩;have hrq:r.size≤q.size:=by
  by_cases h:a<0
  ·rw[(pQ hL h).1];exact Xl _
  ·obtain⟨R,k,_,_,_,_,h5,_⟩:=pP hL h;omega
 refine e_ mv (e_ exr (e_ exr (e_ asn (e_ asn (on_ (qn_ (ws_ (ws_ (wr_ (e_ mv (e_ ige ?_)))))))))));obtain⟨c,e,d⟩:∃c:ByteArray,(0≤a→((jH gq).map eG)[a.toNat]? =some c∧a.toNat<((jH gq).map eG).length)∧(0≤a→∃R,fq gq (dC q)=some R∧dC c=R.1∧dC r=mM (dC q) R.1):=by
  by_cases h:a<0
  ·exact⟨q,λh1=>a8,λh1=>a8⟩
  ·obtain⟨R,k,h1,rfl,h3,h4,h5,h6⟩:=pP hL h;obtain⟨c,_,b,f,_⟩:=SE.get h1;rw[Ve];exact⟨c,λ_=>⟨b,(Yk.1 b).1⟩,λ_=>⟨R,h6,f,h4⟩⟩
 refine e_ mv (dV 6 21 (k:=λh1=>eg_ mv (eg_ mv (eg_ (ixa (i:=a.toNat) (hj:=by omega) (hlt:=(e a8).2)) (eg_ (lel (hy:=(e a8).1)) (eg_ tH (e_ pkt (on_ edq))))))) (q:=e_ mv (dV 4 26 (k:=λh2=>eg_ mv (iU (vs:=[_,_]) (hc:=(mS a8 ae)) (k:=eg_ mN (e_ pkt (on_ edq))))) (q:=e_ mv (dV 4 31 (k:=λh3=>eg_ mv (iU (vs:=[_,_]) (hc:=(mS a8 ae)) (k:=eg_ mN (e_ pkt (on_ edq))))) (q:=on_ (qn_ (wi_ (k:=λh4=>?_) (m:=λh4=>?_)))))))))
 ·have j:mZ (dC q)=dC q:=by
   obtain⟨⟨⟨h0,h1⟩,h2⟩,h3⟩:=h4;obtain⟨R,b,f,l⟩:=d h0;rw[mZ,b];simp only;rw[←l,←f,h1];rw[show dC ⟨#[115]⟩= [115]from rfl]at h2;rw[show dC ⟨#[116]⟩= [116]from rfl]at h3;rw[h2,h3];rfl
  refine ws_ (wr_ (e_ mv (e_ asn (on_ (qn_ (wt_ (qr_ (rT (k:=?_)))))))));exact⟨_,hsb,q,rfl,j.symm,rfl⟩
 have j:mZ (dC q)=gQ gq 1 (dC q):=by
  by_cases ha:a<0
  ·rw[mZ,gQ,(pQ hL ha).2]
  ·obtain⟨R,b,f,l⟩:=d a8;rw[mZ,b];simp only;rw[←l,←f];have:(decide (dC c= [105,111,110])&&!dZ (dC r) [115]&&!dZ (dC r) [116])=false:=by
    rw[show dC ⟨#[115]⟩= [115]from rfl,show dC ⟨#[116]⟩= [116]from rfl,show dC ⟨#[105,111,110]⟩= [105,111,110]from rfl]at h4;rcases h4 with((h1|h1)|h1)|h1
    ·omega
    ·rw[Yr h1];rfl
    ·rw[h1];simp
    ·rw[h1];simp
   rw[this];rfl
 refine wk_ (qn_ (ws_ (wr_ (e_ mv (e_ mv ?_)))));refine c3_ rfl (wX (most:=1) SE a8 ae ae) ?_;rintro _ _ ⟨n,rfl,g,rfl⟩;refine e_ asn (on_ (qn_ (wt_ (rT (k:=?_)))));exact⟨_,hsb,n,rfl,by rw[g,j],rfl⟩
end
end Go.Sx
