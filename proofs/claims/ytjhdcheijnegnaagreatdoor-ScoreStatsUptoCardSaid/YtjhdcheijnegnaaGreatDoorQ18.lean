import Derived.Test.YtjhdcheijnegnaaGreatDoorQ17
set_option linter.all false
set_option maxHeartbeats 0
namespace Go.Sx
open Go Go.Proofs Tryz
set_option maxRecDepth 100000
section
variable {fs:List FV}{i:Nat}{vs:List (ByteArray×ByteArray)}
section
variable {G:cJ}{P:Program}{t:Tm}{H:cG}{dst:Option Tmp}{ty:TypeId}{pos:String}{after:Array Edge}{g:Option (Nat×Bool)}
theorem xn {T K E:TypeId}{x y v:Operand}{r:Nat}{u:Value}{d:List (ByteArray×Value)}{s:ByteArray}{C:Hp→cG}(hx:evo t x=some (.map (some r))) (hy:evo t y=some (.string s)) (hv:evo t v=some u) (f:s ∉ d.map (·.1)) [hT:Und P T (.map K E)] [A:Und P K .string] [hf:Foc H Mv r d C]:
 St G P ⟨dst,.mapUpdate T x y v,ty,pos,after,g⟩ t H (λF R=>F=undef∧R=C (Mv r (d++ [(s,u)]))):=
 fun ρ hρ w hw=>by
  obtain⟨z,L,hL,hl⟩:=hw;obtain⟨L1,M,L2,rfl,⟨c,a,rfl,hk⟩,N⟩:=hf.foc _ hL;have q:w.heap[r]? =some (.map c.toArray a):=hl.at_ (r,.map c.toArray a) ak;have J:=MapKept.run_getObj_map (P:=P) q;have n:=MapKept.run_checkKey (P:=P) (w:=w) A.out (lP s);rcases mL s d c 0 hk.keys hk.vals with⟨j,v',h1,_⟩|⟨h1,h2⟩
  ·exact absurd (Xw.2 ⟨_,Yj h1,rfl⟩) f
  ·have h3:=MapKept.run_findKey (P:=P) (w:=w) A.out h2;have k:=MapKept.run_setObj_map (P:=P) (.map (c.toArray.push {key:=.string s,val:=u,born:=a}) (a+1)) q;have hr:(execOp ρ ⟨dst,.mapUpdate T x y v,ty,pos,after,g⟩).run P w=.ok .skip (e7 w r (.map (c.toArray.push {key:=.string s,val:=u,born:=a}) (a+1))):=by
    simp only[execOp,hρ _ _ hx,hρ _ _ hy,hρ _ _ hv,Instr.mapUpdate,Sem.run_bind,cS (T:=T),Result.andThen_ok,J,n,h3,k,Sem.run_pure];all_goals rfl
   have h:MapKept.Stamped (c++ [({key:=.string s,val:=u,born:=a}:MapEntry)]).toArray (a+1):=by
    have:=MapKept.stamped_push (key:=.string s) (val:=u) hk.stamped (λe he=>by
     intro m;apply f;have B:e.key∈c.map (·.key):=Ux (by simpa using he);rw[hk.keys,m]at B;obtain⟨p,hp,l⟩:=Xw.1 B;cases l;exact Ux hp)
    simpa using this
   rw[hr];refine⟨C (Mv r (d++ [(s,u)])),⟨⟨z.os,z.tape,z.output⟩,_,N _ [(r,.map (c.toArray.push {key:=.string s,val:=u,born:=a}) (a+1))] ⟨c++ [{key:=.string s,val:=u,born:=a}],a+1,ak,⟨h,by simp[hk.keys],by simp[hk.vals]⟩⟩,?_⟩,rfl,rfl⟩;have:=ju.change (w':=e7 w r (.map (c.toArray.push {key:=.string s,val:=u,born:=a}) (a+1))) (L1:=L1) (L2:=L2) (b:=r) (o:=.map c.toArray a) (o':=.map (c.toArray.push {key:=.string s,val:=u,born:=a}) (a+1)) aP (fB q) (λi hi _=>eL hi)
   simpa using this
end
def ri (fs:List FV) (v:ByteArray×ByteArray):Nat:=match fJ fs (cF v.1)with
 |none=>12
 |some i=>if 4096<v.2.size then 3 else match fs[i]? with
  |some p=>bif iX p.kind (cF v.2)then 0 else 13
  |none=>0
def jE (fs:List FV):List (ByteArray×ByteArray)→Nat
 | []=>0
 |v::l=>if ri fs v=0 then jE fs l else ri fs v
def gl (fs:List FV) (vs:List (ByteArray×ByteArray)):Nat:=if fW fs=false then 11 else if 64<vs.length then 3 else jE fs vs
theorem tv {v:ByteArray×ByteArray}(h:vs[i]? =some v):jE fs (vs.drop i)=if ri fs v=0 then jE fs (vs.drop (i+1))else ri fs v:=by
 have hi:=(Yk.1 h).1;have e:vs[i]=v:=(Yk.1 h).2;rw[List.drop_eq_getElem_cons hi,jE,e]
theorem o5 {w:List Nat}(h:fJ fs w=some i):∃p,fs[i]? =some p∧cF p.name=w:=by
 rw[fJ,List.findIdx?_eq_some_iff_getElem]at h;obtain⟨hi,h1,_⟩:=h;exact⟨fs[i],Yi hi,cC⟩
theorem uF {G:cJ}{H:cG}{s:SV} [hs:Sl H s eF fs] (b:fs.length≤1000000000) (hf:∀f∈fs,f.name.size≤1000000000000):SC G prog 21 [.agg #[s.val]] H (λv a=>∃c:Int,v=.int .i64 c∧((fW fs=false∧c=11)∨(fW fs=true∧c=0))∧a=H):=
 (EK b hf).mono λv a h=>by
   obtain⟨h1,⟨h2,h3⟩|⟨h2,h3⟩⟩:=h
   ·exact⟨11,h3,.inl ⟨h2,rfl⟩,h1⟩
   ·exact⟨0,h3,.inr ⟨h2,rfl⟩,h1⟩
theorem NV {G:cJ}{H:cG}{s E:SV} [hf:Sl H s eF fs] [hv:Sl H E eVl vs] (hn:fs.length≤1000000) (z:∀f∈fs,f.name.size≤1000000000) (hvn:vs.length≤1000000000) (F:∀v∈vs,v.2.size≤1000000000):SC G prog 22 [.agg #[s.val],E.val] H (λv M=>v=iN (gl fs vs)∧M=H):=by
 refine sWk func22 ?_;refine gk (k:=bxx (k:=λL=>?_));refine go ?_;refine c1_ rfl (uF a8 (λf hf=>by have:=z f hf;omega)) ?_;rintro _ _ ⟨c,rfl,u,rfl⟩;refine gW (λh1=>?_) λh1=>?_
 ·obtain⟨A,rfl⟩:fW fs=false∧c=11:=by
   rcases u with u|⟨_,h⟩
   ·exact u
   ·exact absurd h h1
  have hT:gl fs vs=11:=by rw[gl,if_pos A]
  refine gR ?_;exact⟨_,hsb,by rw[hT];all_goals rfl,rfl⟩
 have A:fW fs=true:=by
  rcases u with⟨_,h⟩|⟨h,_⟩
  ·have h2:=h1;rw[h]at h2;exact absurd h2 ae
  ·exact h
 have t:¬fW fs=false:=by rw[A];decide
 refine gW (λh2=>?_) λh2=>?_
 ·have hT:gl fs vs=3:=by rw[gl,if_neg t,if_pos a8]
  refine gR ?_;exact⟨_,hsb,by rw[hT];all_goals rfl,rfl⟩
 have hT:gl fs vs=jE fs vs:=by rw[gl,if_neg t,if_neg a8]
 refine gk (k:=wl2_ Nat (λy=>y≤vs.length∧jE fs vs=jE fs (vs.drop y)) (λy=>[(23,iN y)]) [(2,_),(21,_),(22,_)] (λy=>[]) _ (λy=>vs.length-y) (0) (h0:=?_) (k:=?_))
 ·exact⟨Yl _,rfl⟩
 rintro i ⟨hi,hth⟩
 try dsimp only[Yd,Ye]at*
 refine gW (λh3=>?_) λh3=>?_
 ·obtain⟨v,j⟩:=gE vs i;have hvq:=F v (Yj j);have g:=cI v.2;rw[tv j]at hth;have a:ri fs v=match fJ fs (cF v.1)with
   |none=>12
   |some i=>if 4096<v.2.size then 3 else match fs[i]? with
    |some p=>bif iX p.kind (cF v.2)then 0 else 13
    |none=>0:=rfl
  refine gk (k:=alc (k:=λb7=>?_));refine go ?_;refine c2_ rfl (NY a8) ?_;rintro _ _ ⟨k,b,rfl,r,rfl⟩;refine go ?_;refine wi_ (k:=λh4=>?_) (m:=λh4=>?_)
  ·obtain⟨J,w⟩:b=false∧fJ fs (cF v.1)=none:=by
    rcases r with⟨h1,_⟩|h1
    ·rw[h1]at h4;exact absurd h4 ae
    ·exact h1
   rw[w]at a;dsimp only at a;rw[a,if_neg ae]at hth;refine gR ?_;exact⟨_,hsb,bJ,rfl⟩
  obtain⟨J,w⟩:b=true∧fJ fs (cF v.1)=some k:=by
   rcases r with h1|⟨h1,_⟩
   ·exact h1
   ·rw[h1]at h4;exact absurd h4 ae
  obtain⟨p,hp,_⟩:=o5 w;have hkl:=(Yk.1 hp).1;rw[w]at a;dsimp only at a;rw[hp]at a;dsimp only at a;refine gW (λK=>?_) λK=>?_
  ·rw[if_pos a8]at a;rw[a,if_neg ae]at hth;refine gR ?_;exact⟨_,hsb,bJ,rfl⟩
  rw[if_neg a8]at a;refine go ?_;refine gk (k:=cQ 11 59 (k:=λh6=>gk (k:=dz 5 58 (k:=λh7=>gk (k:=edq)) (q:=gk (k:=edq)))) (q:=gW (λB=>?_) (λB=>?_)))
  ·have d:iX p.kind (cF v.2)=false:=by
    obtain⟨C,c2⟩:=B;rw[iX,if_pos C];rcases c2 with c2|c2
    ·simp[Vb (show(cF v.2).length=0 from a8)]
    ·rw[Yr (show ¬(cF v.2).length≤64 from a8)];simp
   rw[d]at a;rw[a]at hth;refine gR ?_;exact⟨_,hsb,bJ,rfl⟩
  have h2:=B;refine go ?_;refine c1_ rfl (B3 a8) ?_;rintro _ _ ⟨n,L,rfl,l,rfl⟩;refine gk (k:=cQ 3 71 (k:=λh9=>gk (k:=edq)) (q:=go ?_));refine gW (λe=>?_) λe=>?_
  ·obtain⟨C,c2⟩:=e;have d:iX p.kind (cF v.2)=false:=by
    rw[iX,if_neg a8,if_pos C];rcases l with⟨h1,_⟩|⟨_,h1⟩
    ·rw[h1]at c2;exact absurd c2 ae
    ·rw[h1];all_goals rfl
   rw[d]at a;rw[a]at hth;refine gR ?_;exact⟨_,hsb,bJ,rfl⟩
  have h3:=e;have x:iX p.kind (cF v.2)=true:=by
   rw[iX]
   by_cases k2:p.kind=2
   ·rw[if_pos k2];have h4:¬(v.2.size:Int)=0∧¬(64<(v.2.size:Int)):=by
     constructor
     ·intro h;apply absurd h2;simp[k2,h]
     ·intro h;apply absurd h2;simp[k2,h]
    rw[Yr (show ¬cF v.2= []from λh=>by rw[h]at g;simp at g;omega),Ys (show(cF v.2).length≤64 from a8)];all_goals rfl
   ·rw[if_neg k2]
    by_cases k3:p.kind=3
    ·rw[if_pos k3];rcases l with⟨_,h1,_⟩|⟨h1,_⟩
     ·rw[h1];all_goals rfl
     ·exact absurd h3 (by simp[k3,h1])
    ·rw[if_neg k3]
  rw[x,cond_true]at a;rw[a,if_pos rfl]at hth;refine go ?_;refine lN (i+1) ?_
  exact⟨a8,hth⟩
 obtain rfl:i=vs.length:=a8;rw[X4]at hth;refine gR ?_;exact⟨_,hsb,bJ,rfl⟩
end
section
variable {R R':Value→cG→Prop}{fs:List FV}{i:Nat}{p:FV}{s:ByteArray}
theorem oU:∀(fs:List FV) (seen:List (List Nat)),pX seen fs=true→(∀f∈fs,cF f.name ∉ seen)∧(fs.map λf=>cF f.name).Nodup
 | [],seen,_=>⟨ak,ak⟩
 |f::r,seen,h=>by
  simp only[pX,Xu,Vq,Xx]at h;obtain⟨h1,h2,h3,h4⟩:=h;obtain⟨b,h6⟩:=oU r _ h4
  constructor
  ·intro g hg;rcases Xr.1 hg with rfl|hg
   ·exact h1
   ·exact λa=>b g hg (Yy _ a)
  ·rw[Xn,U3];refine⟨λa=>?_,h6⟩;obtain⟨g,hg,he⟩:=Xw.1 a;exact b g hg (Yx _ (by rw[he];exact List.mem_singleton_self _))
theorem xW (hc:fW fs=true){j:Nat}{a:FV}(hi:fs[i]? =some p) (hj:fs[j]? =some a) (b:cF p.name=cF a.name):i=j:=by
 rw[fW,Xu]at hc;have h:=(oU fs [] hc.2).2;have h1:=(Yk.1 hi).1;have h2:(fs.map λf=>cF f.name)[i]? =(fs.map λf=>cF f.name)[j]? :=by
  rw[Xd,Xd,hi,hj];simp[b]
 exact(T4 cC h).1 h2
def kvF (fs:List FV):List (ByteArray×Value):=(List.range fs.length).map λi=>((fs.getD i ⟨⟨#[]⟩,0,false,false,false⟩).name,Value.int .i64 (i:Int))
theorem Bj (fs:List FV):(kvF fs).length=fs.length:=by simp[kvF]
theorem rK (h:fs[i]? =some p):(kvF fs)[i]? =some (p.name,iN i):=by
 have hi:=(Yk.1 h).1;rw[kvF,Xd,X3 hi];simp[Xm,h]
theorem FH (h:fs[i]? =some p):(kvF fs).take (i+1)=(kvF fs).take i++ [(p.name,iN i)]:=by
 rw[Ua,rK h];all_goals rfl
theorem IK (hc:fW fs=true) (h:fs[i]? =some p):p.name ∉((kvF fs).take i).map (·.1):=by
 intro hm;obtain⟨e,he,a⟩:=Xw.1 hm;obtain⟨j,hj⟩:=Vy.1 he;rw[Q7]at hj
 split at hj
 ·rename_i hji;have hi:=(Yk.1 h).1;have hp':fs[j]? =some fs[j]:=Yi a8;rw[rK hp']at hj;cases hj;have:=xW hc h hp' (by rw[←a]);omega
 ·cases hj
theorem IT (hc:fW fs=true){v:Value}(h:(kvF fs)[i]? =some (s,v)):fJ fs (cF s)=some i∧v=iN i:=by
 have hi:i<fs.length:=by have:=(Yk.1 h).1;rwa [Bj]at this
 have hp:fs[i]? =some fs[i]:=Yi hi;rw[rK hp]at h;cases h;exact⟨wx hp rfl λj p' hj a he=>by have:=xW hc a hp he;omega,rfl⟩
theorem Gg (h:s ∉(kvF fs).map (·.1)):fJ fs (cF s)=none:=
 qG λj p hj hp he=>h (Xw.2 ⟨_,Yj (rK hp),iw.1 he⟩)
theorem kY.mono {G:cJ}{P:Program}{r:Result Next}(h:kY G P R r) (hk:∀v a,R v a→R' v a):kY G P R' r:=by
 cases r with
 |ok n w'=>
  cases n <;> simp only[kY]at h⊢
  case value v=>obtain⟨a,h1,h2⟩:=h;exact⟨a,h1,hk _ _ h2⟩
  case skip=>obtain⟨a,h1,h2⟩:=h;exact⟨a,h1,hk _ _ h2⟩
  case enter f args=>
   refine h.mono λe w'' he=>?_;cases e with
   |returned v=>obtain⟨a,h1,h2⟩:=he;exact⟨a,h1,hk _ _ h2⟩
   |_=>exact he.elim
 |halt x w'=>simp only[kY]at h
theorem AT {G:cJ}{P:Program}{o:Oper}{t:Tm}{H:cG}(h:St G P o t H R) (hk:∀v H',R v H'→R' v H'):St G P o t H R':=
 fun ρ hρ w hw=>kY.mono (h ρ hρ w hw) hk
section
variable {G:cJ}{P:Program}{t:Tm}{H:cG}{dst:Option Tmp}{ty:TypeId}{pos:String}{after:Array Edge}{g:Option (Nat×Bool)}
theorem Es {T K E:TypeId}{x y:Operand}{r sz bb:Nat}{C:Hp→cG}(hc:fW fs=true) (hx:evo t x=some (.map (some r))) (hy:evo t y=some (.string s)) [hT:Und P T (.map K E)] [hK:Und P K .string] [hE:Inf P E sz bb (.int .i64 0)] [hf:Foc H Mv r (kvF fs) C]:
 St G P ⟨dst,.lookup T x y true,ty,pos,after,g⟩ t H (λu a=>∃(k:Nat) (b:Bool),u=.tuple #[iN k,.bool b]∧((b=true∧fJ fs (cF s)=some k)∨(b=false∧fJ fs (cF s)=none))∧a=H):=
 AT (AU (ok:=true) hx hy) λu a h=>by
  obtain⟨h1,⟨i,v,h2,h3⟩|⟨h2,h3⟩⟩:=h
  ·obtain⟨h4,c⟩:=IT hc h2;exact⟨i,true,by rw[h3,c];all_goals rfl,.inl ⟨rfl,h4⟩,h1⟩
  ·exact⟨0,false,by rw[h3];all_goals rfl,.inr ⟨rfl,Gg h2⟩,h1⟩
end
def OB (G:cJ) (n:Nat):Value:=if n=0 then .nilIface else if n=11 then G.err 0 else if n=3 then G.err 4 else if n=12 then G.err 11 else G.err 12
theorem Nk {G:cJ}{H:cG}{s x:SV}{vs:List (ByteArray×ByteArray)} [hg:Glb G H] [hf:Sl H s eF fs] [hv:Sl H x eVl vs] (hn:fs.length≤1000000) (w:∀f∈fs,f.name.size≤1000000000) (hvn:vs.length≤1000000000) (z:∀v∈vs,v.2.size≤1000000000):SC G prog 91 [.agg #[s.val],x.val] H (λv E=>v=OB G (gl fs vs)∧E=H):=by
 refine sWk func91 ?_;refine gk (k:=bxx (k:=λb2=>?_));refine go ?_;refine c1_ rfl (vW a8 (λf hf=>by have:=w f hf;omega)) ?_;rintro v1 H1 ⟨rfl,B⟩;rcases B with⟨h,rfl⟩|⟨h,rfl⟩
 ·have hT:gl fs vs=11:=by rw[gl,if_pos h]
  refine e_ asn (on_ (qn_ (ws_ (wr_ (e_ mv ?_)))));refine e_ (de rfl) ?_;refine gk (k:=ift (k:=gR ?_));exact⟨_,hsb,by rw[hT];all_goals rfl,rfl⟩
 have g:¬fW fs=false:=by rw[h];decide
 refine e_ asn (on_ (qn_ (ws_ (wr_ (e_ mv ?_)))));refine e_ (cK rfl) ?_;refine gk (k:=iff_ (k:=gW (λh1=>?_) (λh1=>?_)))
 ·have hT:gl fs vs=3:=by rw[gl,if_neg g,if_pos a8]
  refine gR ?_;exact⟨_,hsb,by rw[hT];all_goals rfl,rfl⟩
 have hT:gl fs vs=jE fs vs:=by rw[gl,if_neg g,if_neg a8]
 refine go ?_;refine s_ (Cf rfl) ?_;rintro _ _ ⟨r,rfl,rfl⟩;refine gk (k:=wl2_ Nat (λy=>y≤fs.length) (λy=>[(29,iN y)]) [(1,_),(2,_),(6,_),(27,_),(28,_)] (λy=>[Mv r ((kvF fs).take y)]) _ (λy=>fs.length-y) (0) (h0:=?_) (k:=?_))
 ·exact Yl _
 rintro i hi
 try dsimp only[Yd,Ye]at*
 refine gW (λh2=>?_) λh2=>?_
 ·obtain⟨p,hp⟩:=gE fs i;have d:=IK h hp;have t:=FH hp;refine gk (k:=alc (k:=λb8=>?_));refine go ?_;refine s_ (xn rfl rfl rfl d) ?_;rintro _ _ ⟨rfl,rfl⟩;rw[←t];refine go ?_;refine lN (i+1) ?_
  try dsimp only
  omega
 obtain rfl:i=fs.length:=a8;have l:(kvF fs).take fs.length=kvF fs:=Xq (by rw[Bj];exact Xj _);rw[l];refine go ?_;refine wl2_ Nat (λy=>y≤vs.length∧jE fs vs=jE fs (vs.drop y)) (λy=>[(41,iN y)]) [(2,_),(6,_),(39,_),(40,_)] (λy=>[]) _ (λy=>vs.length-y) (0) (h0:=?_) (k:=?_)
 ·exact⟨Yl _,rfl⟩
 rintro i ⟨hi,hth⟩
 try dsimp only[Yd,Ye]at*
 refine gW (λh3=>?_) λh3=>?_
 ·obtain⟨v,c⟩:=gE vs i;have hvq:=z v (Yj c);have hvl:=cI v.2;rw[tv c]at hth;have a:ri fs v=match fJ fs (cF v.1)with
   |none=>12
   |some i=>if 4096<v.2.size then 3 else match fs[i]? with
    |some p=>bif iX p.kind (cF v.2)then 0 else 13
    |none=>0:=rfl
  refine gk (k:=alc (k:=λb10=>?_));refine go ?_;refine s_ (Es h rfl rfl) ?_;rintro _ _ ⟨k,b,rfl,e,rfl⟩;refine go ?_;refine wi_ (k:=λh4=>?_) (m:=λh4=>?_)
  ·obtain⟨A,n⟩:b=false∧fJ fs (cF v.1)=none:=by
    rcases e with⟨h1,_⟩|h1
    ·rw[h1]at h4;exact absurd h4 ae
    ·exact h1
   rw[n]at a;dsimp only at a;rw[a,if_neg ae]at hth;refine gR ?_;exact⟨_,hsb,bJ,rfl⟩
  obtain⟨A,n⟩:b=true∧fJ fs (cF v.1)=some k:=by
   rcases e with h1|⟨h1,_⟩
   ·exact h1
   ·rw[h1]at h4;exact absurd h4 ae
  obtain⟨p,hp,_⟩:=o5 n;have hkl:=(Yk.1 hp).1;rw[n]at a;dsimp only at a;rw[hp]at a;dsimp only at a;refine gW (λC=>?_) λC=>?_
  ·rw[if_pos a8]at a;rw[a,if_neg ae]at hth;refine gR ?_;exact⟨_,hsb,bJ,rfl⟩
  rw[if_neg a8]at a;refine go ?_;refine cZ cN (as_ 0 (q:=fla) (k:=as_ 1 (q:=ldv) (k:=as_ 2 (q:=mv) (k:=as_ 3 (q:=ixa) (k:=as_ 4 (q:=fle) (k:=as_ 5 (q:=lfl) (k:=as_ 6 (q:=fla) (k:=as_ 7 (q:=ldv) (k:=?_)))))))));refine cO 8 rfl rfl aa rfl (gi (vs:= [_,_]) rfl (Ks a8)) ?_;refine gW (λh6=>?_) λh6=>?_
  ·have j:iX p.kind (cF v.2)=false:=h6;rw[j]at a;rw[a]at hth;refine gR ?_;exact⟨_,hsb,bJ,rfl⟩
  have u:iX p.kind (cF v.2)=true:=h6;rw[u,cond_true]at a;rw[a,if_pos rfl]at hth;refine go ?_;refine lN (i+1) ?_
  exact⟨a8,hth⟩
 obtain rfl:i=vs.length:=a8;rw[X4]at hth;refine gR ?_;exact⟨_,hsb,bJ,rfl⟩
end
end Go.Sx
