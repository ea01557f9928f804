import Derived.Test.YtjhdcheijnegnaaGreatDoorY9
set_option linter.all false
set_option maxHeartbeats 0
namespace Go.Proofs.YtjhdcheijnegnaaGreatDoor
open Go.Sx
open Go
set_option maxRecDepth 100000
section
variable {α:Type}{f:α→Nat}{vss:List (List Val)}{xs:List α}
theorem wN:Tryz.prog.cellsOf 3=1:=aa
theorem Aj:Tryz.prog.cellsOf 4=1:=aa
theorem OE:Tryz.prog.cellsOf 102=5:=aa
theorem OD:Tryz.prog.cellsOf 105=2:=aa
theorem Qn:Tryz.prog.cellsOf 56=1:=aa
theorem Qm:Tryz.prog.cellsOf 25=1:=aa
theorem Kc:Tryz.prog.cellsOf 26=1:=aa
theorem Qq:Tryz.prog.cellsOf 22=1:=aa
theorem Qo:Tryz.prog.cellsOf 24=1:=aa
theorem OF:Tryz.prog.cellsOf 28=6:=aa
section
variable {H:Type}{enc:TypeId×Value→H}{W:World}
theorem EL (n:Nat) (cs:List Value) (y:DataW H×List MemPlace) (h:DataW.trod enc Tryz.prog W 0 (λ_=>true) true n 3 cs=some y):∃a:Int,cs=eI.f a∧True:=by
 obtain⟨k,rfl,_,hw⟩:=DataW.trod_int Tryz.underlying3 h;exact⟨k,rfl,trivial⟩
theorem EM (n:Nat) (cs:List Value) (y:DataW H×List MemPlace) (h:DataW.trod enc Tryz.prog W 0 (λ_=>true) true n 102 cs=some y):∃a:FV,cs=eF.f a∧a.name.size+6≤Rows.uptoBulk y.1:=by
 obtain⟨xs,m,_,rfl,hl,c,b⟩:=DataW.trod_struct Tryz.underlying102 h;rw[OE]at hl
 match cs,hl with
 | [c0,c1,c2,c3,c4],_=>
  have i:DataW.trod enc Tryz.prog W 0 (λ_=>true) true m 9 (([c0,c1,c2,c3,c4].drop 0).take (Tryz.prog.cellsOf 9))=xs[0]? :=b 0 _ rfl;rw[tR]at i;have g:DataW.trod enc Tryz.prog W 0 (λ_=>true) true m 3 (([c0,c1,c2,c3,c4].drop 1).take (Tryz.prog.cellsOf 3))=xs[1]? :=b 1 _ rfl;rw[wN]at g;have f:DataW.trod enc Tryz.prog W 0 (λ_=>true) true m 4 (([c0,c1,c2,c3,c4].drop 2).take (Tryz.prog.cellsOf 4))=xs[2]? :=b 2 _ rfl;rw[Aj]at f;have e:DataW.trod enc Tryz.prog W 0 (λ_=>true) true m 4 (([c0,c1,c2,c3,c4].drop 3).take (Tryz.prog.cellsOf 4))=xs[3]? :=b 3 _ rfl;rw[Aj]at e;have d:DataW.trod enc Tryz.prog W 0 (λ_=>true) true m 4 (([c0,c1,c2,c3,c4].drop 4).take (Tryz.prog.cellsOf 4))=xs[4]? :=b 4 _ rfl;rw[Aj]at d
  match xs,c with
  | [x0,x1,x2,x3,x4],_=>
   obtain⟨s,h0,j,_⟩:=DataW.trod_string Tryz.underlying9 (show _=some x0 from i);obtain⟨k,h1,_,_⟩:=DataW.trod_int Tryz.underlying3 (show _=some x1 from g);obtain⟨q,h2,_⟩:=DataW.trod_bool Tryz.underlying4 (show _=some x2 from f);obtain⟨p,h3,_⟩:=DataW.trod_bool Tryz.underlying4 (show _=some x3 from e);obtain⟨l,h4,_⟩:=DataW.trod_bool Tryz.underlying4 (show _=some x4 from d);simp at h0 h1 h2 h3 h4;subst h0;subst h1;subst h2;subst h3;subst h4;refine⟨⟨s,k,q,p,l⟩,rfl,?_⟩;subst j;simp only[Xn,Ul,Rows.uptoBulk,Rows.uptoBulkAll];have h5:s.data.toList.length=s.size:=ak;have q1:=m7 x1.1;have q2:=m7 x2.1;have q3:=m7 x3.1;have q4:=m7 x4.1;omega
theorem Lv (n:Nat) (cs:List Value) (y:DataW H×List MemPlace) (h:DataW.trod enc Tryz.prog W 0 (λ_=>true) true n 105 cs=some y):∃a:Val,cs=eVl.f a∧a.2.size+1≤Rows.uptoBulk y.1:=by
 obtain⟨xs,m,_,rfl,hl,b,c⟩:=DataW.trod_struct Tryz.underlying105 h;rw[OD]at hl
 match cs,hl with
 | [c0,c1],_=>
  have e:DataW.trod enc Tryz.prog W 0 (λ_=>true) true m 9 (([c0,c1].drop 0).take (Tryz.prog.cellsOf 9))=xs[0]? :=c 0 _ rfl;rw[tR]at e;have d:DataW.trod enc Tryz.prog W 0 (λ_=>true) true m 9 (([c0,c1].drop 1).take (Tryz.prog.cellsOf 9))=xs[1]? :=c 1 _ rfl;rw[tR]at d
  match xs,b with
  | [x0,x1],_=>
   obtain⟨k,h0,_,_⟩:=DataW.trod_string Tryz.underlying9 (show _=some x0 from e);obtain⟨s,h1,f,_⟩:=DataW.trod_string Tryz.underlying9 (show _=some x1 from d);simp at h0 h1;subst h0;subst h1;refine⟨(k,s),rfl,?_⟩;subst f;simp only[Xn,Ul,Rows.uptoBulk,Rows.uptoBulkAll];have h5:s.data.toList.length=s.size:=ak;omega
theorem pd:∀(xs:List α) (ds:List (DataW H)),ds.length=xs.length→(∀(i:Nat) (a:α) (d:DataW H),xs[i]? =some a→ds[i]? =some d→f a≤Rows.uptoBulk d)→(xs.map f).sum≤Rows.uptoBulkAll ds
 | [],_,_,_=>Yl _
 |a::xs, [],h,_=>aI
 |a::xs,d::ds,h,hq=>by
  have h1:=pd xs ds bM λi a d ha hd=>hq (i+1) a d (by simpa using ha) (by simpa using hd);have h2:=hq 0 a d rfl rfl;simp only[Xn,Vn,Rows.uptoBulkAll];omega
def VlQ (W:World) (a:SV) (d:DataW H) (vs:List Val):Prop:=SlL a eVl vs (lz W)∧(vs.map λv=>v.2.size+1).sum+1≤Rows.uptoBulk d
theorem Im (n:Nat) (cs:List Value) (y:DataW H×List MemPlace) (h:DataW.trod enc Tryz.prog W 0 (λ_=>true) true n 56 cs=some y):∃a:SV,cs=eSV.f a∧∃b:List Val,VlQ W a y.1 b:=by
 obtain⟨s,b,h1,j,b1,e⟩:=po eVl (Q:=λa d=>a.2.size+1≤Rows.uptoBulk d) Tryz.underlying56 OD (λn cs y h=>Lv n cs y h) h;refine⟨s,h1,b,j,?_⟩;rcases e with rfl|⟨i,sp,he,c,g⟩
 ·have:=m7 y.1;simpa using this
 ·have:=pd (f:=λv:Val=>v.2.size+1) b i c g;rw[he];simp only[Rows.uptoBulk];omega
theorem GS {g:DataW H}(h:xs= []∨∃(b c:List (DataW H)),g=.slice b c∧b.length=xs.length∧∀(i:Nat) (a:α) (d:DataW H),xs[i]? =some a→b[i]? =some d→f a≤Rows.uptoBulk d):∀x∈xs,f x≤Rows.uptoBulk g:=by
 rcases h with rfl|⟨b,c,he,hl,e⟩
 ·intro x hx;cases hx
 ·intro x hx;obtain⟨i,hi⟩:=Vy.1 hx;have hil:=(Yk.1 hi).1;obtain⟨d,hd⟩:∃d,b[i]? =some d:=⟨_,Yi a8⟩;have h1:=e i x d hi hd;have h2:=vA (Yj hd);rw[he];simp only[Rows.uptoBulk];omega
theorem Ij {g:DataW H}(h:xs= []∨∃(b c:List (DataW H)),g=.slice b c∧b.length=xs.length∧∀(i:Nat) (a:α) (d:DataW H),xs[i]? =some a→b[i]? =some d→f a≤Rows.uptoBulk d) (h6:∀a,6≤f a):6*xs.length≤Rows.uptoBulk g:=by
 rcases h with rfl|⟨b,c,he,hl,e⟩
 ·exact Yl _
 ·have h1:=pd xs b hl e;have h2:∀l:List α,6*l.length≤(l.map f).sum:=λl=>by
   induction l with
   |nil=>simp
   |cons a r ih=>have:=h6 a;simp only[Xn,Vn,Yb];omega
  have h3:=h2 xs;rw[he];simp only[Rows.uptoBulk];omega
theorem sN {s:SV}{e:Enc α}(h:SlL s e xs (lz W)):Sl [Old W] s e xs:=⟨λL hL=>by rw[mz hL];exact h⟩
def vsB (vss:List (List Val)):Nat:=(vss.map λvs=>(vs.map λv=>v.2.size+1).sum+1).sum
theorem Io (fuel:Nat) (l:List Value) (d:DataW H×List MemPlace) (hf:DataW.trod enc Tryz.prog W 0 (λ_=>true) true fuel 28 l=some d):
 ∃(a:CaA) (j:List FV) (b:List SV) (vss:List (List Val)) (e q:List Int) (B1 B2:Nat),l=caV a∧Sl [Old W] a.fv eF j∧Sl [Old W] a.dv eSV b∧uk [Old W] b vss∧Sl [Old W] a.cv eI e∧Sl [Old W] a.xv eI q∧
  B1+B2+e.length+q.length+a.s.size≤Rows.uptoBulk d.1∧6*j.length≤B1∧(∀f∈j,f.name.size+6≤B1)∧vsB vss≤B2:=by
 obtain⟨xs,m,_,rfl,hl,w,c⟩:=DataW.trod_struct Tryz.underlying28 hf;rw[OF]at hl
 match l,hl with
 | [c0,c1,c2,c3,c4,c5],_=>
  have V:DataW.trod enc Tryz.prog W 0 (λ_=>true) true m 24 (([c0,c1,c2,c3,c4,c5].drop 0).take (Tryz.prog.cellsOf 24))=xs[0]? :=c 0 _ rfl;rw[Qo]at V;have U:DataW.trod enc Tryz.prog W 0 (λ_=>true) true m 25 (([c0,c1,c2,c3,c4,c5].drop 1).take (Tryz.prog.cellsOf 25))=xs[1]? :=c 1 _ rfl;rw[Qm]at U;have T:DataW.trod enc Tryz.prog W 0 (λ_=>true) true m 26 (([c0,c1,c2,c3,c4,c5].drop 2).take (Tryz.prog.cellsOf 26))=xs[2]? :=c 2 _ rfl;rw[Kc]at T;have S:DataW.trod enc Tryz.prog W 0 (λ_=>true) true m 26 (([c0,c1,c2,c3,c4,c5].drop 3).take (Tryz.prog.cellsOf 26))=xs[3]? :=c 3 _ rfl;rw[Kc]at S;have N:DataW.trod enc Tryz.prog W 0 (λ_=>true) true m 3 (([c0,c1,c2,c3,c4,c5].drop 4).take (Tryz.prog.cellsOf 3))=xs[4]? :=c 4 _ rfl;rw[wN]at N;have M:DataW.trod enc Tryz.prog W 0 (λ_=>true) true m 9 (([c0,c1,c2,c3,c4,c5].drop 5).take (Tryz.prog.cellsOf 9))=xs[5]? :=c 5 _ rfl;rw[tR]at M
  match xs,w with
  | [x0,x1,x2,x3,x4,x5],_=>
   obtain⟨J,m2,_,e2,_,u,hz⟩:=DataW.trod_struct Tryz.underlying24 (show _=some x0 from V);have L:DataW.trod enc Tryz.prog W 0 (λ_=>true) true m2 22 (([c0].drop 0).take (Tryz.prog.cellsOf 22))=J[0]? :=hz 0 _ rfl;rw[Qq]at L
   match J,u with
   | [z0],_=>
    obtain⟨Y,j,h0,a0,b0,K⟩:=po eF (Q:=λa d=>a.name.size+6≤Rows.uptoBulk d) Tryz.underlying22 OE (λn e y h=>EM n e y h) (show _=some z0 from L);obtain⟨Z,b,h1,a1,b1,r1⟩:=po eSV (Q:=λa d=>∃g:List Val,VlQ W a d g) Tryz.underlying25 Qn (λn e y h=>Im n e y h) (show _=some x1 from U);obtain⟨sc,e,h2,a2,b2,_⟩:=po eI (Q:=λa _=>True) Tryz.underlying26 wN (λn e y h=>EL n e y h) (show _=some x2 from T);obtain⟨X,q,h3,a3,b3,_⟩:=po eI (Q:=λa _=>True) Tryz.underlying26 wN (λn e y h=>EL n e y h) (show _=some x3 from S);obtain⟨k,h4,_,_⟩:=DataW.trod_int Tryz.underlying3 (show _=some x4 from N);obtain⟨s,E,e5,_⟩:=DataW.trod_string Tryz.underlying9 (show _=some x5 from M);simp at h0 h1 h2 h3 h4 E;subst h0;subst h1;subst h2;subst h3;subst h4;subst E;have hB:Rows.uptoBulk z0.1+Rows.uptoBulk x1.1+Rows.uptoBulk x2.1+Rows.uptoBulk x3.1+s.size≤Rows.uptoBulk (DataW.agg ([x0,x1,x2,x3,x4,x5].map (·.1))):=by
     have e4:x0.1=.agg ([z0].map (·.1)):=congrArg Prod.fst e2;subst e5;simp only[Xn,Ul,Rows.uptoBulk,Rows.uptoBulkAll,e4];have E:s.data.toList.length=s.size:=ak;omega
    have A:=GS (f:=λa:FV=>a.name.size+6) K;have B:=Ij K λa=>Nat.le_add_left 6 _;have z:∃vss:List (List Val),uk [Old W] b vss∧vsB vss≤Rows.uptoBulk x1.1:=by
     rcases r1 with rfl|⟨F,sp',he,C,hq⟩
     ·exact⟨[],⟨rfl,λi p d hp=>by simp at hp⟩,Yl _⟩
     ·obtain⟨vss,t,r⟩:=rm (R:=λa d g=>VlQ W a d g) b F C.symm hq;refine⟨vss,⟨t.symm,λi p x hp hx=>?_⟩,?_⟩
      ·obtain⟨d,hd⟩:∃d,F[i]? =some d:=⟨_,Yi (by have:=(Yk.1 hp).1;omega)⟩;exact sN (r i p d x hp hd hx).1
      ·have:=pd (f:=λg:List Val=>(g.map λv=>v.2.size+1).sum+1) vss F a8 (λi x d hx hd=>by
        obtain⟨p,hp⟩:∃p,b[i]? =some p:=⟨_,Yi (by have:=(Yk.1 hx).1;omega)⟩;exact(r i p d x hp hd hx).2)
       rw[he];simp only[Rows.uptoBulk,vsB];omega
    obtain⟨vss,t,r⟩:=z
    try simp only at b2 b3
    exact⟨⟨Y,Z,sc,X,k,s⟩,j,b,vss,e,q,Rows.uptoBulk z0.1,Rows.uptoBulk x1.1,rfl,sN a0,sN a1,t,sN a2,sN a3,Xi (show Rows.uptoBulk z0.1+Rows.uptoBulk x1.1+e.length+q.length+s.size≤Rows.uptoBulk z0.1+Rows.uptoBulk x1.1+Rows.uptoBulk x2.1+Rows.uptoBulk x3.1+s.size from a8) hB,B,A,r⟩
theorem CD {v:Value}{d:DataW H}{p:List MemPlace}(e:∃j,Value.okWide Tryz.prog W .any j 28 v) (h:DataW.Trod enc Tryz.prog W 0 (λ_=>true) true 28 v d p):
 ∃(a:CaA) (i:List FV) (b:List SV) (vss:List (List Val)) (c m:List Int) (k n:Nat),v=.agg (caV a).toArray∧Sl [Old W] a.fv eF i∧Sl [Old W] a.dv eSV b∧uk [Old W] b vss∧Sl [Old W] a.cv eI c∧Sl [Old W] a.xv eI m∧
  k+n+c.length+m.length+a.s.size≤Rows.uptoBulk d∧6*i.length≤k∧(∀f∈i,f.name.size+6≤k)∧vsB vss≤n:=by
 obtain⟨g,q⟩:=h;have hv:∃c,v=.agg c:=by
  obtain⟨_,hv⟩:=e;unfold Value.okWide at hv;rw[Tryz.underlying28]at hv;obtain⟨c,rfl,_⟩:=hv;exact⟨c,rfl⟩
 obtain⟨c,rfl⟩:=hv;obtain⟨l⟩:=c;obtain⟨a,i,b,vss,t,m,k,n,s,r⟩:=Io g _ _ q;obtain rfl:l=_:=s;exact⟨a,i,b,vss,t,m,k,n,rfl,r⟩
end
theorem DN (vs:List Val):vs.length≤(vs.map λv=>v.2.size+1).sum∧(∀v∈vs,v.2.size≤(vs.map λv=>v.2.size+1).sum)∧vsz vs≤20*(vs.map λv=>v.2.size+1).sum:=by
 induction vs with
 |nil=>simp[vsz]
 |cons v r ih=>
  obtain⟨h1,h2,h3⟩:=ih;simp only[vsz]at h3⊢;simp only[Xn,Vn,Yb];refine⟨a8,λw hw=>?_,a8⟩;rcases Xr.1 hw with rfl|hw
  ·omega
  ·have:=h2 w hw;omega
theorem MR (ds:List Doc) {B:Nat}(h:(ds.map λx=>(x.2.map λv=>v.2.size+1).sum+1).sum≤B):ds.length≤B∧(∀d∈ds,d.2.length≤B∧∀v∈d.2,v.2.size≤B)∧dsz ds≤20*B∧tsz ds≤B:=by
 induction ds generalizing B with
 |nil=>simp[dsz,tsz]
 |cons d r ih=>
  simp only[Xn,Vn]at h;obtain⟨h1,h2,h3,h4⟩:=ih (B:=B-((d.2.map λv=>v.2.size+1).sum+1)) a8;obtain⟨k1,a,k3⟩:=DN d.2;simp only[dsz,tsz]at h3 h4⊢;simp only[Xn,Vn,Yb];refine⟨a8,λe he=>?_,a8,a8⟩;rcases Xr.1 he with rfl|he
  ·exact⟨a8,λv hv=>by have:=a v hv;omega⟩
  ·obtain⟨i1,b⟩:=h2 e he;exact⟨a8,λv hv=>by have:=b v hv;omega⟩
theorem AF {vs:List Val}(h:vs∈vss):(vs.map λv=>v.2.size+1).sum+1≤vsB vss:=by
 induction vss with
 |nil=>cases h
 |cons x r ih=>
  simp only[vsB,Xn,Vn]at ih⊢;rcases Xr.1 h with rfl|h
  ·omega
  ·have:=ih h;omega
theorem DF (vss:List (List Val)) (n:Nat):vsB (vss.take n)≤vsB vss:=by
 rw[vsB,vsB,List.map_take];exact l5 _ _
theorem DI (vss:List (List Val)) (n:Nat):vsB (vss.drop n)≤vsB vss:=by
 have:=congrArg vsB (Xv n vss);simp only[vsB,Va,List.sum_append]at this⊢;omega
theorem DH:∀(vss:List (List Val)) (k:Nat),((idL k vss).map λx=>(x.2.map λv=>v.2.size+1).sum+1).sum=vsB vss
 | [],_=>rfl
 |vs::vss,k=>by
  rw[idL];simp only[Xn,Vn,vsB];rw[DH vss (k+1)];rfl
theorem Jm {fs:List FV}{cs dl:List Int}{e c:Nat}(hB:e+c+cs.length+dl.length≤1048576) (h1:6*fs.length≤e) (h2:∀f∈fs,f.name.size+6≤e) (h3:vsB vss≤c):Ju fs vss dl cs:=by
 have b:∀a hi:Nat,dsz (idL a ((vss.take hi).drop a))≤20*c∧tsz (idL a ((vss.take hi).drop a))≤c:=λa hi=>by
  have e1:=DI (vss.take hi) a;have e2:=DF vss hi;obtain⟨_,_,h,g⟩:=MR (idL a ((vss.take hi).drop a)) (B:=c) (by rw[DH];omega);exact⟨h,g⟩
 refine⟨a8,λf i=>by have:=h2 f i;omega,λd hv=>?_,λd hv v hm=>?_,a8,a8,λa hi=>by have:=(b a hi).1;omega,λj a hi=>?_⟩
 ·have:=(DN d).1;have:=AF hv;omega
 ·have:=(DN d).2.1 v hm;have:=AF hv;omega
 ·have:=GU j (idL a ((vss.take hi).drop a));have:=(b a hi).2;omega
end
end Go.Proofs.YtjhdcheijnegnaaGreatDoor
