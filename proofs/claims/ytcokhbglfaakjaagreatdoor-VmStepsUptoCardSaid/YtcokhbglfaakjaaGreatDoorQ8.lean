import Derived.Test.YtcokhbglfaakjaaGreatDoorQ7
set_option linter.all false
set_option maxHeartbeats 0
namespace Go.Sx
open Go Go.Proofs Tryz
set_option maxRecDepth 100000
section
variable {fs:List FV}{i:Nat}{vs:List (ByteArray×ByteArray)}
section
variable {G:dJ}{P:Program}{t:Tm}{H:dD}{dst:Option Tmp}{ty:TypeId}{pos:String}{after:Array Edge}{g:Option (Nat×Bool)}
theorem Cb {T K E:TypeId}{x y v:Operand}{r:Nat}{u:Value}{d:List (ByteArray×Value)}{s:ByteArray}{C:Hp→dD}(hx:evo t x=some (.map (some r))) (hy:evo t y=some (.string s)) (hv:evo t v=some u) (hno:s ∉ d.map (·.1)) [hT:Und P T (.map K E)] [z:Und P K .string] [hf:Foc H Mv r d C]:
 St G P ⟨dst,.mapUpdate T x y v,ty,pos,after,g⟩ t H (λA J=>A=undef∧J=C (Mv r (d++ [(s,u)]))):=
 fun ρ hρ w hw=>by
  obtain⟨q,L,hL,hl⟩:=hw;obtain⟨L1,M,L2,rfl,⟨c,a,rfl,hk⟩,F⟩:=hf.foc _ hL;have n:w.heap[r]? =some (.map c.toArray a):=hl.at_ (r,.map c.toArray a) aq;have B:=MapKept.run_getObj_map (P:=P) n;have m:=MapKept.run_checkKey (P:=P) (w:=w) z.out (oM s);rcases pZ s d c 0 hk.keys hk.vals with⟨j,v',h1,_⟩|⟨h1,h2⟩
  ·exact absurd (Xt.2 ⟨_,Yj h1,rfl⟩) hno
  ·have h3:=MapKept.run_findKey (P:=P) (w:=w) z.out h2;have h:=MapKept.run_setObj_map (P:=P) (.map (c.toArray.push {key:=.string s,val:=u,born:=a}) (a+1)) n;have hr:(execOp ρ ⟨dst,.mapUpdate T x y v,ty,pos,after,g⟩).run P w=.ok .skip (fW w r (.map (c.toArray.push {key:=.string s,val:=u,born:=a}) (a+1))):=by
    simp only[execOp,hρ _ _ hx,hρ _ _ hy,hρ _ _ hv,Instr.mapUpdate,Sem.run_bind,ef (T:=T),Result.andThen_ok,B,m,h3,h,Sem.run_pure];rfl
   have f:MapKept.Stamped (c++ [({key:=.string s,val:=u,born:=a}:MapEntry)]).toArray (a+1):=by
    have:=MapKept.stamped_push (key:=.string s) (val:=u) hk.stamped (λe he=>by
     intro l;apply hno;have h5:e.key∈c.map (·.key):=Vj (by simpa using he);rw[hk.keys,l]at h5;obtain⟨p,hp,k⟩:=Xt.1 h5;cases k;exact Vj hp)
    simpa using this
   rw[hr];refine⟨C (Mv r (d++ [(s,u)])),⟨⟨q.os,q.tape,q.output⟩,_,F _ [(r,.map (c.toArray.push {key:=.string s,val:=u,born:=a}) (a+1))] ⟨c++ [{key:=.string s,val:=u,born:=a}],a+1,aq,⟨f,by simp[hk.keys],by simp[hk.vals]⟩⟩,?_⟩,rfl,rfl⟩;have:=lB.change (w':=fW w r (.map (c.toArray.push {key:=.string s,val:=u,born:=a}) (a+1))) (L1:=L1) (L2:=L2) (b:=r) (o:=.map c.toArray a) (o':=.map (c.toArray.push {key:=.string s,val:=u,born:=a}) (a+1)) bQ (iY n) (λi hi _=>gY hi)
   simpa using this
end
def vW (fs:List FV) (v:ByteArray×ByteArray):Nat:=match ig fs (dC v.1)with
 |none=>12
 |some i=>if 4096<v.2.size then 3 else match fs[i]? with
  |some p=>bif kL p.kind (dC v.2)then 0 else 13
  |none=>0
def lO (fs:List FV):List (ByteArray×ByteArray)→Nat
 | []=>0
 |v::l=>if vW fs v=0 then lO fs l else vW fs v
def jv (fs:List FV) (vs:List (ByteArray×ByteArray)):Nat:=if iK fs=false then 11 else if 64<vs.length then 3 else lO fs vs
theorem y7 {v:ByteArray×ByteArray}(h:vs[i]? =some v):lO fs (vs.drop i)=if vW fs v=0 then lO fs (vs.drop (i+1))else vW fs v:=by
 have hi:=(Yk.1 h).1;have e:vs[i]=v:=(Yk.1 h).2;rw[List.drop_eq_getElem_cons hi,lO,e]
theorem rM {w:List Nat}(h:ig fs w=some i):∃p,fs[i]? =some p∧dC p.name=w:=by
 rw[ig,List.findIdx?_eq_some_iff_getElem]at h;obtain⟨hi,h1,_⟩:=h;exact⟨fs[i],Yi hi,dt⟩
theorem zg {G:dJ}{H:dD}{s:SV} [hs:Sl H s eF fs] (hn:fs.length≤1000000000) (hf:∀f∈fs,f.name.size≤1000000000000):SC G prog 44 [.agg #[s.val]] H (λv a=>∃c:Int,v=.int .i64 c∧((iK fs=false∧c=11)∨(iK fs=true∧c=0))∧a=H):=
 (Kr hn hf).mono λv a h=>by
   obtain⟨h1,⟨h2,h3⟩|⟨h2,h3⟩⟩:=h
   ·exact⟨11,h3,.inl ⟨h2,rfl⟩,h1⟩
   ·exact⟨0,h3,.inr ⟨h2,rfl⟩,h1⟩
theorem WV {G:dJ}{H:dD}{s x:SV} [hf:Sl H s eF fs] [hv:Sl H x eVl vs] (hn:fs.length≤1000000) (u:∀f∈fs,f.name.size≤1000000000) (hvn:vs.length≤1000000000) (z:∀v∈vs,v.2.size≤1000000000):SC G prog 111 [.agg #[s.val],x.val] H (λv C=>v=iN (jv fs vs)∧C=H):=by
 refine sWk func111 ?_;refine gk (k:=bxx (k:=λB=>?_));refine go ?_;refine c1_ rfl (zg a8 (λf hf=>by have:=u f hf;omega)) ?_;rintro _ _ ⟨c,rfl,l,rfl⟩;refine gW (λh1=>?_) λh1=>?_
 ·obtain⟨hc,rfl⟩:iK fs=false∧c=11:=by
   rcases l with l|⟨_,h⟩
   ·exact l
   ·exact absurd h h1
  have hT:jv fs vs=11:=by rw[jv,if_pos hc]
  refine gR ?_;exact⟨_,hsb,by rw[hT];rfl,rfl⟩
 have hc:iK fs=true:=by
  rcases l with⟨_,h⟩|⟨h,_⟩
  ·have h2:=h1;rw[h]at h2;exact absurd h2 ae
  ·exact h
 have j:¬iK fs=false:=by rw[hc];decide
 refine gW (λh2=>?_) λh2=>?_
 ·have hT:jv fs vs=3:=by rw[jv,if_neg j,if_pos a8]
  refine gR ?_;exact⟨_,hsb,by rw[hT];rfl,rfl⟩
 have hT:jv fs vs=lO fs vs:=by rw[jv,if_neg j,if_neg a8]
 refine gk (k:=e8 Nat (λy=>y≤vs.length∧lO fs vs=lO fs (vs.drop y)) (λy=>[(23,iN y)]) [(2,_),(21,_),(22,_)] (λy=>[]) _ (λy=>vs.length-y) (0) (h0:=?_) (k:=?_))
 ·exact⟨Yl _,rfl⟩
 rintro i ⟨hi,hth⟩
 try dsimp only[Yd,Ye]at*
 refine gW (λh3=>?_) λh3=>?_
 ·obtain⟨v,e⟩:=gE vs i;have hvq:=z v (Yj e);have d:=dI v.2;rw[y7 e]at hth;have a:vW fs v=match ig fs (dC v.1)with
   |none=>12
   |some i=>if 4096<v.2.size then 3 else match fs[i]? with
    |some p=>bif kL p.kind (dC v.2)then 0 else 13
    |none=>0:=rfl
  refine gk (k:=alc (k:=λb7=>?_));refine go ?_;refine c2_ rfl (WX a8) ?_;rintro _ _ ⟨k,b,rfl,hkb,rfl⟩;refine go ?_;refine wi_ (k:=λh4=>?_) (m:=λh4=>?_)
  ·obtain⟨A,r⟩:b=false∧ig fs (dC v.1)=none:=by
    rcases hkb with⟨h1,_⟩|h1
    ·rw[h1]at h4;exact absurd h4 ae
    ·exact h1
   rw[r]at a;dsimp only at a;rw[a,if_neg ae]at hth;refine gR ?_;exact⟨_,hsb,bW,rfl⟩
  obtain⟨A,r⟩:b=true∧ig fs (dC v.1)=some k:=by
   rcases hkb with h1|⟨h1,_⟩
   ·exact h1
   ·rw[h1]at h4;exact absurd h4 ae
  obtain⟨p,hp,_⟩:=rM r;have hkl:=(Yk.1 hp).1;rw[r]at a;dsimp only at a;rw[hp]at a;dsimp only at a;refine gW (λh5=>?_) λh5=>?_
  ·rw[if_pos a8]at a;rw[a,if_neg ae]at hth;refine gR ?_;exact⟨_,hsb,bW,rfl⟩
  rw[if_neg a8]at a;refine go ?_;refine gk (k:=dV 11 59 (k:=λh6=>gk (k:=ep 5 58 (k:=λh7=>gk (k:=edq)) (q:=gk (k:=edq)))) (q:=gW (λh8=>?_) (λh8=>?_)))
  ·have hbad:kL p.kind (dC v.2)=false:=by
    obtain⟨w,c2⟩:=h8;rw[kL,if_pos w];rcases c2 with c2|c2
    ·simp[Uc (show(dC v.2).length=0 from a8)]
    ·rw[Yr (show ¬(dC v.2).length≤64 from a8)];simp
   rw[hbad]at a;rw[a]at hth;refine gR ?_;exact⟨_,hsb,bW,rfl⟩
  have h2:=h8;refine go ?_;refine c1_ rfl (Gm a8) ?_;rintro _ _ ⟨n,B,rfl,g,rfl⟩;refine gk (k:=dV 3 71 (k:=λh9=>gk (k:=edq)) (q:=go ?_));refine gW (λh10=>?_) λh10=>?_
  ·obtain⟨w,c2⟩:=h10;have hbad:kL p.kind (dC v.2)=false:=by
    rw[kL,if_neg a8,if_pos w];rcases g with⟨h1,_⟩|⟨_,h1⟩
    ·rw[h1]at c2;exact absurd c2 ae
    ·rw[h1];rfl
   rw[hbad]at a;rw[a]at hth;refine gR ?_;exact⟨_,hsb,bW,rfl⟩
  have h3:=h10;have t:kL p.kind (dC v.2)=true:=by
   rw[kL]
   by_cases k2:p.kind=2
   ·rw[if_pos k2];have h4:¬(v.2.size:Int)=0∧¬(64<(v.2.size:Int)):=by
     constructor
     ·intro h;apply absurd h2;simp[k2,h]
     ·intro h;apply absurd h2;simp[k2,h]
    rw[Yr (show ¬dC v.2= []from λh=>by rw[h]at d;simp at d;omega),Ys (show(dC v.2).length≤64 from a8)];rfl
   ·rw[if_neg k2]
    by_cases k3:p.kind=3
    ·rw[if_pos k3];rcases g with⟨_,h1,_⟩|⟨h1,_⟩
     ·rw[h1];rfl
     ·exact absurd h3 (by simp[k3,h1])
    ·rw[if_neg k3]
  rw[t,cond_true]at a;rw[a,if_pos rfl]at hth;refine go ?_;refine lN (i+1) ?_
  exact⟨a8,hth⟩
 obtain rfl:i=vs.length:=a8;rw[Vi]at hth;refine gR ?_;exact⟨_,hsb,bW,rfl⟩
end
section
variable {R R':Value→dD→Prop}{fs:List FV}{i:Nat}{p:FV}{s:ByteArray}
theorem th:∀(fs:List FV) (seen:List (List Nat)),uw seen fs=true→(∀f∈fs,dC f.name ∉ seen)∧(fs.map λf=>dC f.name).Nodup
 | [],seen,_=>⟨aq,aq⟩
 |f::r,seen,h=>by
  simp only[uw,Xu,Uf,Xy]at h;obtain⟨h1,h2,h3,h4⟩:=h;obtain⟨h5,h6⟩:=th r _ h4
  constructor
  ·intro g hg;rcases Xo.1 hg with rfl|hg
   ·exact h1
   ·exact λa=>h5 g hg (Yy _ a)
  ·rw[Xs,U1];refine⟨λa=>?_,h6⟩;obtain⟨g,hg,he⟩:=Xt.1 a;exact h5 g hg (Yx _ (by rw[he];exact List.mem_singleton_self _))
theorem CP (hc:iK fs=true){j:Nat}{a:FV}(hi:fs[i]? =some p) (hj:fs[j]? =some a) (hn:dC p.name=dC a.name):i=j:=by
 rw[iK,Xu]at hc;have h:=(th fs [] hc.2).2;have h1:=(Yk.1 hi).1;have h2:(fs.map λf=>dC f.name)[i]? =(fs.map λf=>dC f.name)[j]? :=by
  rw[Xd,Xd,hi,hj];simp[hn]
 exact(S1 dt h).1 h2
def kvF (fs:List FV):List (ByteArray×Value):=(List.range fs.length).map λi=>((fs.getD i ⟨⟨#[]⟩,0,false,false,false⟩).name,Value.int .i64 (i:Int))
theorem GM (fs:List FV):(kvF fs).length=fs.length:=by simp[kvF]
theorem wu (h:fs[i]? =some p):(kvF fs)[i]? =some (p.name,iN i):=by
 have hi:=(Yk.1 h).1;rw[kvF,Xd,Ur hi];simp[Xj,h]
theorem Lx (h:fs[i]? =some p):(kvF fs).take (i+1)=(kvF fs).take i++ [(p.name,iN i)]:=by
 rw[Um,wu h];rfl
theorem Pn (hc:iK fs=true) (h:fs[i]? =some p):p.name ∉((kvF fs).take i).map (·.1):=by
 intro hm;obtain⟨e,he,hn⟩:=Xt.1 hm;obtain⟨j,hj⟩:=Vh.1 he;rw[X3]at hj
 split at hj
 ·rename_i hji;have hi:=(Yk.1 h).1;have hp':fs[j]? =some fs[j]:=Yi a8;rw[wu hp']at hj;cases hj;have:=CP hc h hp' (by rw[←hn]);omega
 ·cases hj
theorem Pz (hc:iK fs=true){v:Value}(h:(kvF fs)[i]? =some (s,v)):ig fs (dC s)=some i∧v=iN i:=by
 have hi:i<fs.length:=by have:=(Yk.1 h).1;rwa [GM]at this
 have hp:fs[i]? =some fs[i]:=Yi hi;rw[wu hp]at h;cases h;exact⟨Ba hp rfl λj p' hj a he=>by have:=CP hc a hp he;omega,rfl⟩
theorem Mj (h:s ∉(kvF fs).map (·.1)):ig fs (dC s)=none:=
 vo λj p hj hp he=>h (Xt.2 ⟨_,Yj (wu hp),jy.1 he⟩)
theorem ou.mono {G:dJ}{P:Program}{r:Result Next}(h:ou G P R r) (hk:∀v a,R v a→R' v a):ou G P R' r:=by
 cases r with
 |ok n w'=>
  cases n <;> simp only[ou]at h⊢
  case value v=>obtain⟨a,h1,h2⟩:=h;exact⟨a,h1,hk _ _ h2⟩
  case skip=>obtain⟨a,h1,h2⟩:=h;exact⟨a,h1,hk _ _ h2⟩
  case enter f args=>
   refine h.mono λe w'' he=>?_;cases e with
   |returned v=>obtain⟨a,h1,h2⟩:=he;exact⟨a,h1,hk _ _ h2⟩
   |_=>exact he.elim
 |halt x w'=>simp only[ou]at h
theorem Gb {G:dJ}{P:Program}{o:Oper}{t:Tm}{H:dD}(h:St G P o t H R) (hk:∀v H',R v H'→R' v H'):St G P o t H R':=
 fun ρ hρ w hw=>ou.mono (h ρ hρ w hw) hk
section
variable {G:dJ}{P:Program}{t:Tm}{H:dD}{dst:Option Tmp}{ty:TypeId}{pos:String}{after:Array Edge}{g:Option (Nat×Bool)}
theorem K5 {T K E:TypeId}{x y:Operand}{r c d:Nat}{C:Hp→dD}(hc:iK fs=true) (hx:evo t x=some (.map (some r))) (hy:evo t y=some (.string s)) [hT:Und P T (.map K E)] [hK:Und P K .string] [hE:Inf P E c d (.int .i64 0)] [hf:Foc H Mv r (kvF fs) C]:
 St G P ⟨dst,.lookup T x y true,ty,pos,after,g⟩ t H (λu a=>∃(k:Nat) (b:Bool),u=.tuple #[iN k,.bool b]∧((b=true∧ig fs (dC s)=some k)∨(b=false∧ig fs (dC s)=none))∧a=H):=
 Gb (Gc (ok:=true) hx hy) λu a h=>by
  obtain⟨h1,⟨i,v,h2,h3⟩|⟨h2,h3⟩⟩:=h
  ·obtain⟨h4,h5⟩:=Pz hc h2;exact⟨i,true,by rw[h3,h5];rfl,.inl ⟨rfl,h4⟩,h1⟩
  ·exact⟨0,false,by rw[h3];rfl,.inr ⟨rfl,Mj h2⟩,h1⟩
end
def YF (G:dJ) (n:Nat):Value:=if n=0 then .nilIface else if n=11 then G.err 0 else if n=3 then G.err 4 else if n=12 then G.err 11 else G.err 12
theorem We {G:dJ}{H:dD}{s t:SV}{vs:List (ByteArray×ByteArray)} [hg:Glb G H] [hf:Sl H s eF fs] [hv:Sl H t eVl vs] (hn:fs.length≤1000000) (r:∀f∈fs,f.name.size≤1000000000) (hvn:vs.length≤1000000000) (u:∀v∈vs,v.2.size≤1000000000):SC G prog 113 [.agg #[s.val],t.val] H (λv z=>v=YF G (jv fs vs)∧z=H):=by
 refine sWk func113 ?_;refine gk (k:=bxx (k:=λb2=>?_));refine go ?_;refine c1_ rfl (AF a8 (λf hf=>by have:=r f hf;omega)) ?_;rintro v1 H1 ⟨rfl,x⟩;rcases x with⟨hc,rfl⟩|⟨hc,rfl⟩
 ·have hT:jv fs vs=11:=by rw[jv,if_pos hc]
  refine e_ asn (on_ (qn_ (ws_ (wr_ (e_ mv ?_)))));refine e_ (eg rfl) ?_;refine gk (k:=ift (k:=gR ?_));exact⟨_,hsb,by rw[hT];rfl,rfl⟩
 have e:¬iK fs=false:=by rw[hc];decide
 refine e_ asn (on_ (qn_ (ws_ (wr_ (e_ mv ?_)))));refine e_ (dL rfl) ?_;refine gk (k:=fM (k:=gW (λh1=>?_) (λh1=>?_)))
 ·have hT:jv fs vs=3:=by rw[jv,if_neg e,if_pos a8]
  refine gR ?_;exact⟨_,hsb,by rw[hT];rfl,rfl⟩
 have hT:jv fs vs=lO fs vs:=by rw[jv,if_neg e,if_neg a8]
 refine go ?_;refine s_ (HV rfl) ?_;rintro _ _ ⟨j,rfl,rfl⟩;refine gk (k:=e8 Nat (λy=>y≤fs.length) (λy=>[(29,iN y)]) [(1,_),(2,_),(6,_),(27,_),(28,_)] (λy=>[Mv j ((kvF fs).take y)]) _ (λy=>fs.length-y) (0) (h0:=?_) (k:=?_))
 ·exact Yl _
 rintro i hi
 try dsimp only[Yd,Ye]at*
 refine gW (λh2=>?_) λh2=>?_
 ·obtain⟨p,hp⟩:=gE fs i;have d:=Pn hc hp;have l:=Lx hp;refine gk (k:=alc (k:=λb8=>?_));refine go ?_;refine s_ (Cb rfl rfl rfl d) ?_;rintro _ _ ⟨rfl,rfl⟩;rw[←l];refine go ?_;refine lN (i+1) ?_
  try dsimp only
  omega
 obtain rfl:i=fs.length:=a8;have g:(kvF fs).take fs.length=kvF fs:=Xr (by rw[GM];exact Xl _);rw[g];refine go ?_;refine e8 Nat (λy=>y≤vs.length∧lO fs vs=lO fs (vs.drop y)) (λy=>[(41,iN y)]) [(2,_),(6,_),(39,_),(40,_)] (λy=>[]) _ (λy=>vs.length-y) (0) (h0:=?_) (k:=?_)
 ·exact⟨Yl _,rfl⟩
 rintro i ⟨hi,hth⟩
 try dsimp only[Yd,Ye]at*
 refine gW (λh3=>?_) λh3=>?_
 ·obtain⟨v,c⟩:=gE vs i;have hvq:=u v (Yj c);have hvl:=dI v.2;rw[y7 c]at hth;have a:vW fs v=match ig fs (dC v.1)with
   |none=>12
   |some i=>if 4096<v.2.size then 3 else match fs[i]? with
    |some p=>bif kL p.kind (dC v.2)then 0 else 13
    |none=>0:=rfl
  refine gk (k:=alc (k:=λb10=>?_));refine go ?_;refine s_ (K5 hc rfl rfl) ?_;rintro _ _ ⟨k,b,rfl,hkb,rfl⟩;refine go ?_;refine wi_ (k:=λh4=>?_) (m:=λh4=>?_)
  ·obtain⟨w,h⟩:b=false∧ig fs (dC v.1)=none:=by
    rcases hkb with⟨h1,_⟩|h1
    ·rw[h1]at h4;exact absurd h4 ae
    ·exact h1
   rw[h]at a;dsimp only at a;rw[a,if_neg ae]at hth;refine gR ?_;exact⟨_,hsb,bW,rfl⟩
  obtain⟨w,h⟩:b=true∧ig fs (dC v.1)=some k:=by
   rcases hkb with h1|⟨h1,_⟩
   ·exact h1
   ·rw[h1]at h4;exact absurd h4 ae
  obtain⟨p,hp,_⟩:=rM h;have hkl:=(Yk.1 hp).1;rw[h]at a;dsimp only at a;rw[hp]at a;dsimp only at a;refine gW (λh5=>?_) λh5=>?_
  ·rw[if_pos a8]at a;rw[a,if_neg ae]at hth;refine gR ?_;exact⟨_,hsb,bW,rfl⟩
  rw[if_neg a8]at a;refine go ?_;refine dX dN (as_ 0 (q:=fla) (k:=as_ 1 (q:=ldv) (k:=as_ 2 (q:=mv) (k:=as_ 3 (q:=ixa) (k:=as_ 4 (q:=fle) (k:=as_ 5 (q:=lfl) (k:=as_ 6 (q:=fla) (k:=as_ 7 (q:=ldv) (k:=?_)))))))));refine dS 8 rfl rfl aa rfl (iR (vs:= [_,_]) rfl (RA a8)) ?_;refine gW (λh6=>?_) λh6=>?_
  ·have hbad:kL p.kind (dC v.2)=false:=h6;rw[hbad]at a;rw[a]at hth;refine gR ?_;exact⟨_,hsb,bW,rfl⟩
  have n:kL p.kind (dC v.2)=true:=h6;rw[n,cond_true]at a;rw[a,if_pos rfl]at hth;refine go ?_;refine lN (i+1) ?_
  exact⟨a8,hth⟩
 obtain rfl:i=vs.length:=a8;rw[Vi]at hth;refine gR ?_;exact⟨_,hsb,bW,rfl⟩
end
section
variable {G:dJ}{H:dD}{x:Nat}
def fO (n:Nat):Nat:=if n=0 then 0 else Nat.log2 n+1
theorem rU (n:Nat):n<2^fO n:=by
 rw[fO];split
 ·omega
 ·exact Nat.lt_log2_self
theorem vC {n:Nat}(h:n≠0):2^(fO n-1)≤n:=by
 rw[fO,if_neg h,X7];exact Nat.log2_self_le h
theorem J3 {n k:Nat}(h1:2^k≤n) (h2:n<2^(k+1)):fO n=k+1:=by
 have h0:n≠0:=by have:=U3 k;omega
 rw[fO,if_neg h0];have h3:Nat.log2 n<k+1:=(Nat.log2_lt h0).2 h2;have h4:¬Nat.log2 n<k:=λh=>by have:=(Nat.log2_lt h0).1 h;omega
 omega
theorem fY (n k:Nat) (h:2^k≤n):fO n=fO (n/2^k)+k:=by
 have hp:=U3 k;have h0:n/2^k≠0:=by
  have:=Nat.div_pos h hp;omega
 obtain⟨m,hm⟩:∃m,fO (n/2^k)=m+1:=⟨Nat.log2 (n/2^k),by rw[fO,if_neg h0]⟩;have h1:=vC h0;have h2:=rU (n/2^k);rw[hm]at h1 h2⊢;rw[X7]at h1;rw[show m+1+k=(m+k)+1 from a8];apply J3
 ·rw[Uz];exact(Nat.le_div_iff_mul_le hp).1 h1
 ·rw[show m+k+1=(m+1)+k from a8,Uz];exact(Nat.div_lt_iff_lt_mul hp).1 h2
def EO:ByteArray:=⟨#[0,1,2,2,3,3,3,3,4,4,4,4,4,4,4,4,5,5,5,5,5,5,5,5,5,5,5,5,5,5,5,5,6,6,6,6,6,6,6,6,6,6,6,6,6,6,6,6,6,6,6,6,6,6,6,6,6,6,6,6,6,6,6,6,7,7,7,7,7,7,7,7,7,7,7,7,7,7,7,7,7,7,7,7,7,7,7,7,7,7,7,7,7,7,7,7,7,7,7,7,7,7,7,7,7,7,7,7,7,7,7,7,7,7,7,7,7,7,7,7,7,7,7,7,7,7,7,7,8,8,8,8,8,8,8,8,8,8,8,8,8,8,8,8,8,8,8,8,8,8,8,8,8,8,8,8,8,8,8,8,8,8,8,8,8,8,8,8,8,8,8,8,8,8,8,8,8,8,8,8,8,8,8,8,8,8,8,8,8,8,8,8,8,8,8,8,8,8,8,8,8,8,8,8,8,8,8,8,8,8,8,8,8,8,8,8,8,8,8,8,8,8,8,8,8,8,8,8,8,8,8,8,8,8,8,8,8,8,8,8,8,8,8,8,8,8,8,8,8,8,8,8,8,8,8,8]⟩
theorem NA:∀i:Fin 256,at0 (dC EO) i.val=fO i.val:=ax
theorem qF {i:Nat}(h:i<256):at0 (dC EO) i=fO i:=NA ⟨i,h⟩
theorem bl8 (n:Nat) (h:n<256):fO n≤8:=by
 by_cases h0:n=0
 ·subst h0;decide
 ·have h1:=vC h0;rcases Us 8 (fO n)with h2|h2
  ·exfalso;have h3:2^8≤2^(fO n-1):=X0 ae a8;omega
  ·exact h2
theorem CV:EO.size=256:=rfl
theorem RT (hx:x<18446744073709551616):SC G prog 257 [uN x] H (λv e=>v=iN (fO x)∧e=H):=by
 have hsz:=CV;refine sWk func257 ?_;refine gW (λh1=>?_) λh1=>?_
 ·have hs1:=fY x 32 a8;refine ws_ (wr_ (e_ mv ?_));refine e_ (hX rfl rfl _ 32 rfl rfl aV) (go ?_);refine wi_ (k:=λh2=>?_) (m:=λh2=>?_)
  ·first|have c:=fY (x/2^32) 16 a8|have c:=fY x 16 a8
   refine ws_ (wr_ (e_ mv ?_));refine e_ (hX rfl rfl _ 16 rfl rfl aV) (go ?_);refine gW (λh3=>?_) λh3=>?_
   ·first|have b:=fY (x/2^32/2^16) 8 a8|have b:=fY (x/2^32) 8 a8|have b:=fY (x/2^16) 8 a8|have b:=fY x 8 a8
    refine ws_ (wr_ (e_ mv ?_));refine e_ (hX rfl rfl _ 8 rfl rfl aV) ?_;refine e_ asn (on_ (qn_ (wr_ (e_ mv (e_ iad (e_ asn (on_ (qn_ (ws_ (wr_ ?_))))))))))
    first|have a:=bl8 x a8|have a:=bl8 (x/2^8) a8|have a:=bl8 (x/2^16) a8|have a:=bl8 (x/2^16/2^8) a8|have a:=bl8 (x/2^32) a8|have a:=bl8 (x/2^32/2^8) a8|have a:=bl8 (x/2^32/2^16) a8|have a:=bl8 (x/2^32/2^16/2^8) a8
    refine e_ mv (e_ mv ?_);refine e_ (dW 256 rfl rfl rfl _ rfl a8) ?_;refine e_ (evq ixs (congrArg (λn:Nat=>Value.int .u8 (n:Int)) (qF a8))) ?_;refine e_ (ew rfl a8) ?_;refine gR ?_;exact⟨_,hsb,congrArg (Value.int .i64) a8,rfl⟩
   refine wk_ (qn_ (ws_ (wr_ ?_)))
   first|have a:=bl8 x a8|have a:=bl8 (x/2^8) a8|have a:=bl8 (x/2^16) a8|have a:=bl8 (x/2^16/2^8) a8|have a:=bl8 (x/2^32) a8|have a:=bl8 (x/2^32/2^8) a8|have a:=bl8 (x/2^32/2^16) a8|have a:=bl8 (x/2^32/2^16/2^8) a8
   refine e_ mv (e_ mv ?_);refine e_ (dW 256 rfl rfl rfl _ rfl a8) ?_;refine e_ (evq ixs (congrArg (λn:Nat=>Value.int .u8 (n:Int)) (qF a8))) ?_;refine e_ (ew rfl a8) ?_;refine gR ?_;exact⟨_,hsb,congrArg (Value.int .i64) a8,rfl⟩
  refine gW (λh4=>?_) λh4=>?_
  ·first|have b:=fY (x/2^32/2^16) 8 a8|have b:=fY (x/2^32) 8 a8|have b:=fY (x/2^16) 8 a8|have b:=fY x 8 a8
   refine ws_ (wr_ (e_ mv ?_));refine e_ (hX rfl rfl _ 8 rfl rfl aV) ?_;refine e_ asn (on_ (qn_ (wr_ (e_ mv (e_ iad (e_ asn (on_ (qn_ (ws_ (wr_ ?_))))))))))
   first|have a:=bl8 x a8|have a:=bl8 (x/2^8) a8|have a:=bl8 (x/2^16) a8|have a:=bl8 (x/2^16/2^8) a8|have a:=bl8 (x/2^32) a8|have a:=bl8 (x/2^32/2^8) a8|have a:=bl8 (x/2^32/2^16) a8|have a:=bl8 (x/2^32/2^16/2^8) a8
   refine e_ mv (e_ mv ?_);refine e_ (dW 256 rfl rfl rfl _ rfl a8) ?_;refine e_ (evq ixs (congrArg (λn:Nat=>Value.int .u8 (n:Int)) (qF a8))) ?_;refine e_ (ew rfl a8) ?_;refine gR ?_;exact⟨_,hsb,congrArg (Value.int .i64) a8,rfl⟩
  refine wk_ (qn_ (ws_ (wr_ ?_)))
  first|have a:=bl8 x a8|have a:=bl8 (x/2^8) a8|have a:=bl8 (x/2^16) a8|have a:=bl8 (x/2^16/2^8) a8|have a:=bl8 (x/2^32) a8|have a:=bl8 (x/2^32/2^8) a8|have a:=bl8 (x/2^32/2^16) a8|have a:=bl8 (x/2^32/2^16/2^8) a8
  refine e_ mv (e_ mv ?_);refine e_ (dW 256 rfl rfl rfl _ rfl a8) ?_;refine e_ (evq ixs (congrArg (λn:Nat=>Value.int .u8 (n:Int)) (qF a8))) ?_;refine e_ (ew rfl a8) ?_;refine gR ?_;exact⟨_,hsb,congrArg (Value.int .i64) a8,rfl⟩
 refine gW (λh5=>?_) λh5=>?_
 ·first|have c:=fY (x/2^32) 16 a8|have c:=fY x 16 a8
  refine ws_ (wr_ (e_ mv ?_));refine e_ (hX rfl rfl _ 16 rfl rfl aV) (go ?_);refine gW (λh6=>?_) λh6=>?_
  ·first|have b:=fY (x/2^32/2^16) 8 a8|have b:=fY (x/2^32) 8 a8|have b:=fY (x/2^16) 8 a8|have b:=fY x 8 a8
   refine ws_ (wr_ (e_ mv ?_));refine e_ (hX rfl rfl _ 8 rfl rfl aV) ?_;refine e_ asn (on_ (qn_ (wr_ (e_ mv (e_ iad (e_ asn (on_ (qn_ (ws_ (wr_ ?_))))))))))
   first|have a:=bl8 x a8|have a:=bl8 (x/2^8) a8|have a:=bl8 (x/2^16) a8|have a:=bl8 (x/2^16/2^8) a8|have a:=bl8 (x/2^32) a8|have a:=bl8 (x/2^32/2^8) a8|have a:=bl8 (x/2^32/2^16) a8|have a:=bl8 (x/2^32/2^16/2^8) a8
   refine e_ mv (e_ mv ?_);refine e_ (dW 256 rfl rfl rfl _ rfl a8) ?_;refine e_ (evq ixs (congrArg (λn:Nat=>Value.int .u8 (n:Int)) (qF a8))) ?_;refine e_ (ew rfl a8) ?_;refine gR ?_;exact⟨_,hsb,congrArg (Value.int .i64) a8,rfl⟩
  refine wk_ (qn_ (ws_ (wr_ ?_)))
  first|have a:=bl8 x a8|have a:=bl8 (x/2^8) a8|have a:=bl8 (x/2^16) a8|have a:=bl8 (x/2^16/2^8) a8|have a:=bl8 (x/2^32) a8|have a:=bl8 (x/2^32/2^8) a8|have a:=bl8 (x/2^32/2^16) a8|have a:=bl8 (x/2^32/2^16/2^8) a8
  refine e_ mv (e_ mv ?_);refine e_ (dW 256 rfl rfl rfl _ rfl a8) ?_;refine e_ (evq ixs (congrArg (λn:Nat=>Value.int .u8 (n:Int)) (qF a8))) ?_;refine e_ (ew rfl a8) ?_;refine gR ?_;exact⟨_,hsb,congrArg (Value.int .i64) a8,rfl⟩
 refine gW (λd=>?_) λd=>?_
 ·first|have b:=fY (x/2^32/2^16) 8 a8|have b:=fY (x/2^32) 8 a8|have b:=fY (x/2^16) 8 a8|have b:=fY x 8 a8
  refine ws_ (wr_ (e_ mv ?_));refine e_ (hX rfl rfl _ 8 rfl rfl aV) ?_;refine e_ asn (on_ (qn_ (wr_ (e_ mv (e_ iad (e_ asn (on_ (qn_ (ws_ (wr_ ?_))))))))))
  first|have a:=bl8 x a8|have a:=bl8 (x/2^8) a8|have a:=bl8 (x/2^16) a8|have a:=bl8 (x/2^16/2^8) a8|have a:=bl8 (x/2^32) a8|have a:=bl8 (x/2^32/2^8) a8|have a:=bl8 (x/2^32/2^16) a8|have a:=bl8 (x/2^32/2^16/2^8) a8
  refine e_ mv (e_ mv ?_);refine e_ (dW 256 rfl rfl rfl _ rfl a8) ?_;refine e_ (evq ixs (congrArg (λn:Nat=>Value.int .u8 (n:Int)) (qF a8))) ?_;refine e_ (ew rfl a8) ?_;refine gR ?_;exact⟨_,hsb,congrArg (Value.int .i64) a8,rfl⟩
 refine wk_ (qn_ (ws_ (wr_ ?_)))
 first|have a:=bl8 x a8|have a:=bl8 (x/2^8) a8|have a:=bl8 (x/2^16) a8|have a:=bl8 (x/2^16/2^8) a8|have a:=bl8 (x/2^32) a8|have a:=bl8 (x/2^32/2^8) a8|have a:=bl8 (x/2^32/2^16) a8|have a:=bl8 (x/2^32/2^16/2^8) a8
 refine e_ mv (e_ mv ?_);refine e_ (dW 256 rfl rfl rfl _ rfl a8) ?_;refine e_ (evq ixs (congrArg (λn:Nat=>Value.int .u8 (n:Int)) (qF a8))) ?_;refine e_ (ew rfl a8) ?_;refine gR ?_;exact⟨_,hsb,congrArg (Value.int .i64) a8,rfl⟩
theorem Wb (hx:x<18446744073709551616):SC G prog 221 [uN x] H (λv a=>v=iN (fO x)∧a=H):=by
 refine sWk func221 ?_;refine gk (k:=fM (k:=go ?_));refine d1_ rfl (RT hx) (gR ?_);exact⟨_,hsb,rfl,rfl⟩
end
section
variable {ns:List Nat}
theorem j7 (n k:Nat):fO n≤k↔n<2^k:=by
 constructor
 ·intro h;exact Q6 (rU n) (X0 ae h)
 ·intro h
  by_cases h0:n=0
  ·subst h0;exact Yl _
  ·have h1:=vC h0;rcases Us k (fO n)with h2|h2
   ·exfalso;have h3:2^k≤2^(fO n-1):=X0 ae a8;omega
   ·exact h2
theorem A6 (a b:Nat):fO (a |||b)=max (fO a) (fO b):=by
 apply Nat.le_antisymm
 ·rw[j7];exact U7 ((j7 _ _).1 (Nat.le_max_left _ _)) ((j7 _ _).1 (Nat.le_max_right _ _))
 ·rw[Nat.max_le]
  constructor
  ·rw[j7];exact Nat.lt_of_le_of_lt Nat.left_le_or (rU _)
  ·rw[j7];exact Nat.lt_of_le_of_lt Nat.right_le_or (rU _)
def orL (ns:List Nat):Nat:=ns.foldl (λa b=>a |||b) 0
theorem CF {i x:Nat}(h:ns[i]? =some x):orL (ns.take (i+1))=orL (ns.take i) |||x:=by
 rw[orL,orL,Um,h,List.foldl_append];rfl
theorem qU {k:Nat}:∀{ns:List Nat}{a:Nat},a<2^k→(∀x∈ns,x<2^k)→ns.foldl (λa b=>a |||b) a<2^k
 | [],a,ha,_=>ha
 |x::l,a,ha,h=>qU (ns:=l) (U7 ha (h x Yz)) λy hy=>h y (Xa _ hy)
def dT (ns:List Nat):List Int:=ns.map λn:Nat=>(n:Int)
theorem gh {i x:Nat}(h:ns[i]? =some x):(dT ns)[i]? =some (x:Int):=by
 rw[dT,Xd,h];rfl
theorem eJ (ns:List Nat):(dT ns).length=ns.length:=by simp[dT]
end
section
variable {G:dJ}{P:Program}{t:Tm}{H:dD}{dst:Option Tmp}{ty:TypeId}{pos:String}{after:Array Edge}{g:Option (Nat×Bool)}
theorem ye {T U:TypeId}{x y:Operand}{k':IntKind}{i j:Int}(hx:evo t x=some (.int .i64 i)) (hy:evo t y=some (.int k' j)) (a b:Nat) (ha:i=a) (f:j=b) (c:b≤64) (hl:a*2^b<9223372036854775808):
 Ev G P ⟨dst,.binOp .shl T x y U,ty,pos,after,g⟩ t H (iN (a*2^b)):=
 fun ρ hρ w _=>by
  have e:IntKind.wrap .i64 ((a:Int)*2^min b 64)=((a*2^b:Nat):Int):=by
   rw[Ug c,show((a:Int)*2^b)=((a*2^b:Nat):Int)from aq];exact kH a8
  have d:¬((b:Int)<0):=a8;simp only[execOp,hρ _ _ hx,hρ _ _ hy,eqGuard,binOp,Op.shift,ha,f];have h:IntKind.bits .i64=64:=rfl;simp[e,d,h]
end
def ff (ns:List Nat):List Nat:=uv ns.length++(if ns= []then []else fO (orL ns)::Gu (fO (orL ns)) ns)
theorem FD (ns:List Nat):∀x∈dT ns,0≤x:=by
 intro x hx;obtain⟨n,_,rfl⟩:=Xt.1 hx;omega
theorem KT {ns:List Nat}{x:Nat}(h:x∈ns):x<2 ^ fO (orL ns):=by
 obtain⟨i,hi⟩:=Vh.1 h
 have key:∀(l:List Nat) (a x:Nat),(x=a∨x∈l)→fO x≤fO (l.foldl (λa b=> a |||b) a):=by
  intro l
  induction l with
  |nil=> intro a x hx;rcases hx with rfl|hx
         ·exact Xl _
         ·cases hx
  |cons y l ih=>
   intro a x hx
   rw[List.foldl_cons]
   rcases hx with rfl|hx
   ·exact Xi (by rw[A6];exact Nat.le_max_left _ _) (ih (x |||y) (x |||y) (.inl rfl))
   ·rcases Xo.1 hx with rfl|hx
    ·exact Xi (by rw[A6];exact Nat.le_max_right _ _) (ih (a |||x) (a |||x) (.inl rfl))
    ·exact ih _ _ (.inr hx)
 exact(j7 _ _).1 (key ns 0 x (.inr h))
section
variable {α:Type}{full:List α}{i nb:Nat}{ns:List Nat}{z:α}
def gx {α:Type}(full:List α) (z:α) (i:Nat):List α:=full.take i++List.replicate (full.length-i) z
theorem kG (h:i≤full.length):(gx full z i).length=full.length:=by simp[gx];omega
theorem mW (full:List α) (z:α):gx full z 0=List.replicate full.length z:=by simp[gx]
theorem nu (full:List α) (z:α):gx full z full.length=full:=by simp[gx]
theorem oT {b:α}(h:full[i]? =some b):(gx full z i).set i b=gx full z (i+1):=by
 have hi:=(Yk.1 h).1;obtain⟨d,hd⟩:∃d,full.length-i=d+1:=⟨full.length-i-1,a8⟩;have h2:full.length-(i+1)=d:=a8;rw[gx,gx,hd,h2,dK h,V6,Ux _ _ az,Yg,Ug a8,Ui];simp
abbrev Po:=Nat×List Nat
def fB (nb:Nat) (l:List Po):Nat:=match l.getLast? with|none=>nb|some p=>p.1+1
def je:Nat→List Po→List Nat
 |_, []=>[]
 |nb,p::r=>(p.1-nb)::je (p.1+1) r
def kt (l:List Po):List Nat:=l.map λp=>p.2.length-1
def gU:Nat→List Nat→List Nat
 |_, []=>[]
 |nb,x::r=>uv (x-nb)++gU (x+1) r
def fP (l:List Po):List Nat:=l.flatMap λp=>gU 0 p.2
def my (nb:Nat) (l:List Po):List Nat:=ff (je nb l)++ff (kt l)++fP l
def ec (l:List Po):Nat:=(l.map λp=>p.2.length).sum
def ei (l:List Po) (k:Nat):List Po:=(l.take (16*k+16)).drop (16*k)
def dP (l:List Po):Nat→Nat×List Nat×List Nat
 | 0=>(0, [], [])
 |k+1=>(fB (dP l k).1 (ei l k),
  (dP l k).2.1++(uv (fB (dP l k).1 (ei l k)-1-(dP l k).1)++uv (my (dP l k).1 (ei l k)).length),
  (dP l k).2.2++my (dP l k).1 (ei l k))
def eC (l:List Po):Nat:=(l.length+15)/16
def eO (l:List Po):List Nat:=uv l.length++uv (ec l)++(dP l (eC l)).2.1++(dP l (eC l)).2.2
def tP:Nat→List Nat→Prop
 |_, []=>True
 |nb,x::r=>nb≤x∧tP (x+1) r
def j5:Nat→List Po→Prop
 |_, []=>True
 |nb,p::r=>nb≤p.1∧p.2≠ []∧tP 0 p.2∧j5 (p.1+1) r
def fL (l:List Po):Prop:=l.length≤100000∧∀p∈l,p.1≤1000000∧p.2.length≤100000000∧∀x∈p.2,x<1099511627776
theorem oL (nb:Nat):fB nb []=nb:=rfl
theorem pR (nb:Nat) (l:List Po) (p:Po):fB nb (l++ [p])=p.1+1:=by simp[fB]
theorem kQ (nb:Nat) (p:Po) (l:List Po):fB nb (p::l)=fB (p.1+1) l:=by
 cases l with
 |nil=>rfl
 |cons q l=>
  have h:(q::l).getLast? ≠none:=aq;simp only[fB,List.getLast?_cons_cons];cases hc:(q::l).getLast? with
  |none=>exact absurd hc h
  |some r=>rfl
theorem sV {l:List Po}{p:Po}(h:l[i]? =some p):fB nb (l.take (i+1))=p.1+1:=by
 rw[dK h,pR]
theorem iO:∀(l:List Po) (nb:Nat),(je nb l).length=l.length
 | [],_=>rfl
 |p::r,nb=>by simp[je,iO r]
theorem vk:∀{l:List Po}{nb i:Nat}{p:Po},l[i]? =some p→(je nb l)[i]? =some (p.1-fB nb (l.take i))
 | [],_,_,_,h=>aK
 |q::r,nb,0,p,h=>by simp at h;subst h;simp[je,oL]
 |q::r,nb,i+1,p,h=>by
  rw[Xc]at h;rw[je,Xc,vk h,Vq,kQ]
theorem jP:∀{l:List Po}{nb i:Nat}{p:Po},j5 nb l→l[i]? =some p→fB nb (l.take i)≤p.1∧p.2≠ []∧tP 0 p.2
 | [],_,_,_,_,h=>aK
 |q::r,nb,0,p,hk,h=>by simp at h;subst h;exact⟨hk.1,hk.2.1,hk.2.2.1⟩
 |q::r,nb,i+1,p,hk,h=>by
  rw[Xc]at h;rw[Vq,kQ];exact jP hk.2.2.2 h
theorem zn:∀{l:List Po}{nb:Nat}(i:Nat),j5 nb l→j5 (fB nb (l.take i)) (l.drop i)
 |l,nb,0,h=>by simpa [oL] using h
 | [],_,i+1,_=>by simp[j5]
 |p::r,nb,i+1,h=>by
  rw[Vq,U9,kQ];exact zn i h.2.2.2
theorem uW:∀{l:List Po}{nb:Nat}(i:Nat),j5 nb l→j5 nb (l.take i)
 |_,_,0,_=>by simp[j5]
 | [],_,i+1,_=>by simp[j5]
 |p::r,nb,i+1,h=>by
  rw[Vq];exact⟨h.1,h.2.1,h.2.2.1,uW i h.2.2.2⟩
theorem Iq (nb:Nat) (a b:List Po):fB nb (a++b)=fB (fB nb a) b:=by
 cases b with
 |nil=>simp[oL]
 |cons p b=>
  obtain⟨c,q,hc⟩:∃c q,p::b=c++ [q]:=by
   rcases X4 (p::b)with h|⟨c,q,h⟩
   ·cases h
   ·exact⟨c,q,bA⟩
  rw[hc,←Yf,pR,pR]
theorem lQ (l:List Po) (k:Nat):l.take (16*k)++ei l k=l.take (16*(k+1)):=by
 have h:l.take (16*k)=(l.take (16*k+16)).take (16*k):=by rw[List.take_take,Ug a8]
 rw[ei,h,Vd];rfl
theorem vQ (l:List Po):∀k,(dP l k).1=fB 0 (l.take (16*k))
 | 0=>rfl
 |k+1=>by rw[dP,vQ l k,←Iq,lQ]
theorem nF {l:List Po}(h:j5 0 l) (k:Nat):j5 (dP l k).1 (ei l k):=by
 have h2:=zn (16*k) (uW (16*k+16) h);rw[vQ,ei]
 rwa [List.take_take,Ug a8]at h2
theorem pb (l:List Po) (k:Nat):(ei l k).length=min (16*k+16) l.length-16*k:=by simp[ei]
theorem J0 {l:List Po}{k:Nat}{p:Po}(h:p∈ei l k):p∈l:=Yq (Yp h)
theorem pB:∀{l:List Nat}{nb j x:Nat},l[j]? =some x→gU nb (l.take (j+1))=gU nb (l.take j)++uv (x-(if j=0 then nb else l.getD (j-1) 0+1))
 | [],_,_,_,h=>aK
 |y::r,nb,0,x,h=>by simp at h;subst h;simp[gU]
 |y::r,nb,1,x,h=>by
  cases r with
  |nil=>simp at h
  |cons z r=>simp at h;subst h;simp[gU]
 |y::r,nb,j+2,x,h=>by
  rw[Xc]at h;rw[Vq,gU,pB h,Vq,gU,if_neg a8,if_neg a8,Yf];simp
theorem rE:∀{l:List Nat}{nb j x:Nat},tP nb l→l[j]? =some x→(if j=0 then nb else l.getD (j-1) 0+1)≤x
 | [],_,_,_,_,h=>aK
 |y::r,nb,0,x,hk,h=>by simp at h;subst h;simpa using hk.1
 |y::r,nb,1,x,hk,h=>by
  cases r with
  |nil=>simp at h
  |cons z r=>simp at h;subst h;simpa using hk.2.1
 |y::r,nb,j+2,x,hk,h=>by
  rw[Xc]at h;have:=rE hk.2 h;rw[if_neg a8]at this;rw[if_neg a8]
  simpa using this
theorem vI {l:List Po}{p:Po}(h:l[i]? =some p):fP (l.take (i+1))=fP (l.take i)++gU 0 p.2:=by
 rw[dK h];simp[fP]
theorem ry {l:List Po}{p:Po}(h:l[i]? =some p):ec (l.take (i+1))=ec (l.take i)+p.2.length:=by
 rw[dK h];simp[ec]
theorem gb {n k:Nat}(h:n<1099511627776) (hk:6≤k):(uv n).length≤k:=Xi (Jv 6 n a8 ae) hk
theorem uJ:∀{l:List Nat}{nb:Nat},(∀x∈l,x<1099511627776)→(gU nb l).length≤6*l.length
 | [],_,_=>by simp[gU]
 |x::r,nb,h=>by
  have h1:=gb (n:=x-nb) (k:=6) (by have:=h x aq;omega) a8;have h2:=uJ (nb:=x+1) (λy hy=>h y (Xa _ hy));simp only[gU,Ya,Yb];omega
theorem sN:∀{l:List Po},(∀p∈l,∀x∈p.2,x<1099511627776)→(fP l).length≤6*ec l
 | [],_=>by simp[fP]
 |p::r,h=>by
  have h1:=uJ (nb:=0) (h p aq);have h2:=sN (l:=r) (λq a=>h q (Xa _ a));simp only[fP,ec,Vx,Ya,Xs,Vv]at*;omega
theorem kY (hl:∀x∈ns,x<1099511627776) (hn:ns.length<1099511627776):(ff ns).length≤10+5*ns.length:=by
 have h1:=gb (n:=ns.length) (k:=6) hn a8;rw[ff,Ya]
 by_cases h:ns= []
 ·rw[if_pos h];simp;omega
 ·rw[if_neg h,Yb,Gu,gH];have h2:fO (orL ns)≤40:=(j7 _ _).2 (qU (k:=40) ae hl);have h3:ns.length*fO (orL ns)≤ns.length*40:=V7 _ h2;have:1≤ns.length:=by cases ns with|nil=>exact absurd rfl h|cons=>simp
  omega
theorem nq:∀{l:List Po}{nb m:Nat},(∀p∈l,p.1≤m)→∀x∈je nb l,x≤m
 | [],_,_,_,x,hx=>by simp[je]at hx
 |p::r,nb,m,h,x,hx=>by
  rcases Xo.1 hx with rfl|hx
  ·have:=h p aq;omega
  ·exact nq (λq a=>h q (Xa _ a)) x hx
theorem ud {l:List Po}{m:Nat}(h:∀p∈l,p.2.length≤m):∀x∈kt l,x≤m:=by
 intro x hx;obtain⟨p,hp,rfl⟩:=Xt.1 hx;have:=h p hp;omega
theorem uy {l:List Po}(h:fL l):(my nb l).length≤20+10*l.length+6*ec l:=by
 obtain⟨h0,h1⟩:=h;have h2:=kY (ns:=je nb l) (λx hx=>by have:=nq (λp hp=>(h1 p hp).1) x hx;omega) cI;have h3:=kY (ns:=kt l) (λx hx=>by have:=ud (λp hp=>(h1 p hp).2.1) x hx;omega) bX;have h4:=sN (l:=l) (λp hp=>(h1 p hp).2.2);rw[iO]at h2;rw[kt,Yh]at h3;simp only[my,Ya];rw[kt];omega
theorem p9 {l:List Po}(h:fL l) (k:Nat):fL (ei l k):=
 ⟨by have:=h.1;rw[pb];omega,λp hp=>h.2 p (J0 hp)⟩
theorem m6 (a b:List Po):ec (a++b)=ec a+ec b:=by simp[ec]
theorem Aq {l:List Po}(h:fL l):ec l≤l.length*100000000:=by
 have a:∀m:List Po,(∀p∈m,p.2.length≤100000000)→ec m≤m.length*100000000:=by
  intro m
  induction m with
  |nil=>intro _;simp[ec]
  |cons p m ih=>
   intro hm;have h1:=ih (λq b=>hm q (Xa _ b));have h2:=hm p aq;simp only[ec,Xs,Vv,Yb]at h1⊢;omega
 exact a l λp hp=>(h.2 p hp).2.1
theorem kO {l:List Po}(h:fL l):∀k,(dP l k).2.1.length≤12*k∧(dP l k).2.2.length≤20*k+10*(l.take (16*k)).length+6*ec (l.take (16*k))∧(dP l k).1≤1000001
 | 0=>by simp[dP,ec]
 |k+1=>by
  obtain⟨h1,h2,h3⟩:=kO h k;have b:=p9 h k;have h4:=uy (nb:=(dP l k).1) b;have h5:fB (dP l k).1 (ei l k)≤1000001:=by
   unfold fB
   split
   ·exact h3
   ·rename_i p hp;have:=(b.2 p (Q0 hp)).1;omega
  have h6:ec (ei l k)≤16*100000000:=by
   have a:(ei l k).length≤16:=by rw[pb];omega
   exact Xi (Aq b) (Vu _ a)
  have h7:=gb (n:=fB (dP l k).1 (ei l k)-1-(dP l k).1) (k:=6) a8 a8;have a:(ei l k).length≤16:=by rw[pb];omega
  have h8:=gb (n:=(my (dP l k).1 (ei l k)).length) (k:=6) a8 a8;have h9:(l.take (16*(k+1))).length=(l.take (16*k)).length+(ei l k).length:=by rw[←lQ,Ya]
  have h10:ec (l.take (16*(k+1)))=ec (l.take (16*k))+ec (ei l k):=by rw[←lQ,m6]
  refine⟨?_,?_,by simp only[dP];exact h5⟩
  ·simp only[dP,Ya];omega
  ·rw[h9,h10];simp only[dP,Ya];omega
theorem qi (l:List Po):l.take (16*eC l)=l:=Xr cR
theorem zO {l:List Po}(h:fL l) (a:ec l<1099511627776):(eO l).length≤60+20*l.length+6*ec l:=by
 obtain⟨h1,h2,_⟩:=kO h (eC l);rw[qi]at h2;have h3:=gb (n:=l.length) (k:=6) (by have:=h.1;omega) a8;have h4:=gb (n:=ec l) (k:=6) a a8;have h5:16*eC l≤l.length+15:=cR;simp only[eO,Ya];omega
theorem BS:∀(l:List Nat) (nb:Nat),∀x∈gU nb l,x<256
 | [],_,x,hx=>by simp[gU]at hx
 |y::r,nb,x,hx=>by
  rcases Xm.1 hx with h|h
  ·exact kz _ x h
  ·exact BS r _ x h
theorem sU (hl:∀x∈ns,x<1099511627776):∀x∈ff ns,x<256:=by
 intro x hx;have h2:fO (orL ns)≤40:=(j7 _ _).2 (qU (k:=40) ae hl);rcases Xm.1 hx with h|h
 ·exact kz _ x h
 ·split at h
  ·simp at h
  ·rcases Xo.1 h with rfl|h
   ·omega
   ·exact Tj _ _ x h
theorem Hq {l:List Po}(h:fL l):∀x∈my nb l,x<256:=by
 intro x hx;rcases Xm.1 hx with hx|hx
 ·rcases Xm.1 hx with hx|hx
  ·exact sU (λx hx=>by have:=nq (λp hp=>(h.2 p hp).1) x hx;omega) x hx
  ·exact sU (λx hx=>by have:=ud (λp hp=>(h.2 p hp).2.1) x hx;omega) x hx
 ·obtain⟨p,_,hp⟩:=U4.1 hx;exact BS _ _ x hp
theorem zk {l:List Po}(h:fL l):∀k,(∀x∈(dP l k).2.1,x<256)∧∀x∈(dP l k).2.2,x<256
 | 0=>by simp[dP]
 |k+1=>by
  obtain⟨h1,h2⟩:=zk h k
  constructor
  ·intro x hx;rcases Xm.1 hx with hx|hx
   ·exact h1 x hx
   ·rcases Xm.1 hx with hx|hx <;> exact kz _ x hx
  ·intro x hx;rcases Xm.1 hx with hx|hx
   ·exact h2 x hx
   ·exact Hq (p9 h k) x hx
theorem Dk {l:List Po}(h:fL l):∀x∈eO l,x<256:=by
 intro x hx;obtain⟨h1,h2⟩:=zk h (eC l);rcases Xm.1 hx with hx|hx
 ·rcases Xm.1 hx with hx|hx
  ·rcases Xm.1 hx with hx|hx <;> exact kz _ x hx
  ·exact h1 x hx
 ·exact h2 x hx
end
theorem KH {m N T y:Nat}(hm:T/8<m) (hN:N<2^T):(leB m N).set (T/8) (N/256^(T/8)+y%2^(8-T%8)*2^(T%8))=leB m (N+2^T*(y%2^(8-T%8)))∧N/256^(T/8)+y%2^(8-T%8)*2^(T%8)<256∧(leB m N)[T/8]? =some (N/256^(T/8))∧N+2^T*(y%2^(8-T%8))<2^(T+(8-T%8)):=by
 have hp:0<256^(T/8):=Nat.pow_pos ae;have h1:=Jy hN;have hr:T%8<8:=V2 _ ae;have h2:y%2^(8-T%8)<2^(8-T%8):=V2 _ (U3 _);have h3:2^(8-T%8)*2^(T%8)=256:=by rw[←Uz,show 8-T%8+T%8=8 from a8]
 have h4:N/256^(T/8)+y%2^(8-T%8)*2^(T%8)<256:=by
  have h5:(y%2^(8-T%8)+1)*2^(T%8)≤2^(8-T%8)*2^(T%8):=Vu _ h2;rw[Vy,h3]at h5;omega
 have h256:2^(T%8)≤2^7:=X0 ae a8;have a:(N+2^T*(y%2^(8-T%8)))/256^(T/8)=N/256^(T/8)+y%2^(8-T%8)*2^(T%8):=by
  rw[rC T,V3,Nat.add_mul_div_left _ _ hp,V5 (2^(T%8))]
 refine⟨?_,h4,?_,?_⟩
 ·apply Vz;intro j;rw[Vf,gH]
  by_cases hj:T/8=j
  ·subst hj;rw[if_pos rfl,if_pos hm,rH hm,a,Xw h4]
  ·rw[if_neg hj]
   by_cases hjm:j<m
   ·rw[rH hjm,rH hjm];rcases Us j (T/8)with hlt|hge
    ·rw[rC T,V3,Lk hlt]
    ·obtain⟨d,rfl⟩:∃d,j=T/8+1+d:=⟨j-(T/8+1),a8⟩;rw[V0,Uz,←S6,←S6,a];have h6:256≤256^(1+d):=by rw[Uz,Nat.pow_one];exact Nat.le_mul_of_pos_right _ (Nat.pow_pos ae)
     rw[Nat.div_eq_of_lt (show N/256^(T/8)<256^(1+d)from a8),Nat.div_eq_of_lt (show N/256^(T/8)+y%2^(8-T%8)*2^(T%8)<256^(1+d)from a8)]
   ·rw[Xz (by rw[gH];omega),Xz (by rw[gH];omega)]
 ·rw[rH hm,Xw (show N/256^(T/8)<256 from a8)]
 ·rw[Uz];have b:2^T*(y%2^(8-T%8)+1)≤2^T*2^(8-T%8):=V7 _ h2;rw[R7]at b;omega
theorem KJ {a y k:Nat}(ha:a<2^k) (hk:k<8):a |||(y*2^k%256)=a+y%2^(8-k)*2^k:=by
 have h3:(256:Nat)=2^(8-k)*2^k:=by rw[←Uz,show 8-k+k=8 from a8]
 have h4:y*2^k%256=y%2^(8-k)*2^k:=by
  conv=>lhs;rw[h3]
  rw[Nat.mul_mod_mul_right]
 rw[h4,Nat.or_comm,V5,←Nat.two_pow_add_eq_or_of_lt ha,Nat.add_comm]
theorem CA (x d e:Nat):x%2^d+2^d*(x/2^d%2^e)=x%2^(d+e):=by
 rw[Uz,Nat.mod_mul]
section
variable {k w:Nat}{l:List Po}
theorem J2 {m N T t:Nat}(hm:T/8<m) (h:T%8+t≤8):∃x,(leB m N)[T/8]? =some x∧x<256∧x/2^(T%8)%2^t=N/2^T%2^t:=by
 refine⟨_,rH hm,V2 _ ae,?_⟩;have hT:2^T=256^(T/8)*2^(T%8):=rC T;rw[hT,←S6];generalize N/256^(T/8)=y;have h8:256=2^(T%8)*(2^t*2^(8-(T%8+t))):=by
  rw[←Uz,←Uz,show T%8+(t+(8-(T%8+t)))=8 from a8]
 rw[h8,Nat.mod_mul_right_div_self,Nat.mod_mul_right_mod]
theorem qS:∀(l:List Nat) (i:Nat),(∀x∈l,x<2^w)→jd w l/2^(w*i)=jd w (l.drop i)
 |l,0,_=>aq
 | [],i+1,_=>by simp[jd]
 |y::l,i+1,h=>by
  have h2:=h y Yz;rw[R7,U5,Nat.add_comm (w*i),Uz,←S6,jd,Nat.add_mul_div_left _ _ (U3 w),Nat.div_eq_of_lt h2,Vw,U9];exact qS l i λx hx=>h x (Xa _ hx)
theorem Ig {l:List Nat}{i x:Nat}(h:l[i]? =some x) (hl:∀x∈l,x<2^w):jd w l/2^(w*i)%2^w=x:=by
 rw[qS l i hl,eh h,jd,Nat.add_mul_mod_self_left,Xw (hl x (Yj h))]
theorem Ih {l:List Nat}(hl:∀x∈l,x<2^w) (t:Nat):jd w l/2^(w*l.length)%2^t=0:=by
 rw[qS l l.length hl,Vi,jd,Nat.zero_mod]
theorem J1 {N at_ got t:Nat}:N/2^at_%2^got |||(N/2^(at_+got)%2^t)*2^got=N/2^at_%2^(got+t):=by
 rw[Uz 2 at_,←S6,Nat.or_comm,V5 (_%_),←Nat.two_pow_add_eq_or_of_lt (V2 _ (U3 got)),Nat.add_comm];exact CA _ _ _
theorem pM (l:List Po):∀(K k:Nat),k<K→∃r a,(dP l K).2.1=(dP l k).2.1++(uv (fB (dP l k).1 (ei l k)-1-(dP l k).1)++uv (my (dP l k).1 (ei l k)).length)++r∧(dP l K).2.2=(dP l k).2.2++my (dP l k).1 (ei l k)++a
 | 0,k,h=>a8
 |K+1,k,h=>by
  rcases Uq (V9 h)with h1|rfl
  ·obtain⟨r,a,h2,h3⟩:=pM l K k h1;exact⟨r++(uv (fB (dP l K).1 (ei l K)-1-(dP l K).1)++uv (my (dP l K).1 (ei l K)).length),a++my (dP l K).1 (ei l K),by simp only[dP,h2,Yf],by simp only[dP,h3,Yf]⟩
  ·exact⟨[], [],by simp[dP],by simp[dP]⟩
def GS (l:List Po):Nat:=(uv l.length).length+(uv (ec l)).length+(dP l (eC l)).2.1.length
def nh (l:List Po) (k:Nat):Nat:=GS l+(dP l k).2.2.length
def j6 (l:List Po) (k:Nat):Nat:=(my (dP l k).1 (ei l k)).length
abbrev Sk:=Nat×Nat×Nat×Nat
def lf (l:List Po) (k:Nat):Sk:=((dP l (k+1)).1-1,(ei l k).length,nh l k,j6 l k)
def sk0 (l:List Po) (k:Nat):Sk:=((dP l (k+1)).1-1,(ei l k).length,0,j6 l k)
def ic (l:List Po):List Sk:=(List.range (eC l)).map (lf l)
def qx (l:List Po) (k:Nat):List Sk:=(List.range k).map (sk0 l)
theorem lK (l:List Po):(ic l).length=eC l:=by simp[ic]
theorem mQ (h:k<eC l):(ic l)[k]? =some (lf l k):=by
 rw[ic,Xd,Ur h];rfl
theorem tF (l:List Po) (k:Nat):(qx l k).length=k:=by simp[qx]
theorem xc {j:Nat}(h:j<k):(qx l k)[j]? =some (sk0 l j):=by
 rw[qx,Xd,Ur h];rfl
theorem I1 (l:List Po) (k:Nat):qx l (k+1)=qx l k++ [sk0 l k]:=by simp[qx,X9]
theorem rO (l:List Po) (h:k<eC l):(((eO l).take (nh l k+j6 l k)).drop (nh l k))=my (dP l k).1 (ei l k)∧nh l k+j6 l k≤(eO l).length:=by
 obtain⟨r,b,_,h2⟩:=pM l (eC l) k h;have e:eO l=(uv l.length++uv (ec l)++(dP l (eC l)).2.1++(dP l k).2.2)++(my (dP l k).1 (ei l k)++b):=by
  rw[eO,h2];simp only[Yf]
 have hA:(uv l.length++uv (ec l)++(dP l (eC l)).2.1++(dP l k).2.2).length=nh l k:=by
  simp only[Ya,nh,GS]
 have a:(my (dP l k).1 (ei l k)).length=j6 l k:=rfl
 constructor
 ·rw[e,List.drop_take,show nh l k+j6 l k-nh l k=j6 l k from a8,←hA,Vg,←a,T9]
 ·rw[e,Ya,hA,Ya,a];omega
theorem KX (l:List Po) (k:Nat):nh l (k+1)=nh l k+j6 l k:=by
 simp only[nh,dP,Ya,j6];omega
theorem OY (l:List Po):nh l (eC l)=(eO l).length:=by
 simp only[nh,GS,eO,Ya]
theorem yi (l:List Po):(eO l)=uv l.length++(uv (ec l)++((dP l (eC l)).2.1++(dP l (eC l)).2.2)):=by
 simp only[eO,Yf]
theorem IP (l:List Po) (h:k<eC l):∃r,(eO l).drop ((uv l.length).length+(uv (ec l)).length+(dP l k).2.1.length)=uv (fB (dP l k).1 (ei l k)-1-(dP l k).1)++(uv (j6 l k)++r):=by
 obtain⟨r,r',h1,_⟩:=pM l (eC l) k h;refine⟨r++(dP l (eC l)).2.2,?_⟩;have e:eO l=(uv l.length++uv (ec l)++(dP l k).2.1)++(uv (fB (dP l k).1 (ei l k)-1-(dP l k).1)++(uv (j6 l k)++(r++(dP l (eC l)).2.2))):=by
  rw[eO,h1];simp only[Yf,j6]
 have hA:(uv l.length++uv (ec l)++(dP l k).2.1).length=(uv l.length).length+(uv (ec l)).length+(dP l k).2.1.length:=by
  simp only[Ya]
 rw[e,←hA,Vg]
theorem nG (h:k<eC l):1≤(ei l k).length∧(ei l k).length=min 16 (l.length-16*k):=by
 rw[pb];unfold eC at h;omega
theorem A5 {i:Nat}(h:i<16):(ei l k)[i]? =l[16*k+i]? :=by
 rw[ei,Xh,X3];rw[if_pos a8]
end
section
variable {k q u:Nat}{p:Po}{ps:List Po}{t:Int}
structure CuS where
 ps:List Po
 u:Nat
 mv:Nat
 told:Bool
def gz (ps:List Po):Nat→Int
 | 0=>-1
 |k+1=>match ps[k]? with
  |some p=>(p.1:Int)
  |none=>2147483647
def mvG (n u q:Nat):Nat:=if q<n∧u/16=q/16 then q+1-u else if q<n then q/16-u/16+q%16+1 else if u=n then 1 else(n+15)/16-u/16+1
def goC (c:CuS) (q:Nat):CuS:=⟨c.ps,q+1,c.mv+mvG c.ps.length c.u q,false⟩
def nP (ps:List Po) (u:Nat) (t:Int):Nat:=u+(ps.drop u).findIdx λp=>decide (t≤(p.1:Int))
def jK (c:CuS) (t:Int):CuS:=if t≤gz c.ps c.u∨c.u=c.ps.length+1 then c else goC c (nP c.ps c.u t)
def fj (c:CuS):List Nat:=match c.u with
 | 0=>[]
 |k+1=>match c.ps[k]? with
  |some p=>p.2
  |none=>[]
def jD (c:CuS):CuS:=if c.told=true∨fj c= []then c else⟨c.ps,c.u,c.mv+(fj c).length,true⟩
structure jU (c:CuS):Prop where
 ok:j5 0 c.ps
 small:fL c.ps
 tot:ec c.ps≤100000000
 at_:c.u≤c.ps.length+1
 mvs:c.mv≤c.u+ec (c.ps.take (if c.told=true then c.u else c.u-1))
theorem Hf (h:ps[k]? =some p):gz ps (k+1)=(p.1:Int):=by rw[gz,h]
theorem yq (ps:List Po):gz ps (ps.length+1)=2147483647:=by rw[gz,Xz (Xl _)]
theorem PZ (h:fL ps) (u:Nat):gz ps u≤2147483647:=by
 cases u with
 |zero=>show(-1:Int)≤2147483647;decide
 |succ k=>
  rw[gz];split
  ·rename_i p hp;have:=(h.2 p (Yj hp)).1;omega
  ·omega
theorem Fj (h1:u≤q) (h2:q≤ps.length) (h3:∀j p,u≤j→j<q→ps[j]? =some p→(p.1:Int)<t) (h4:∀p,ps[q]? =some p→t≤(p.1:Int)):nP ps u t=q:=by
 have b:(ps.drop u).findIdx (λp=>decide (t≤(p.1:Int)))=q-u:=by
  rcases Us q ps.length with hq|hq
  ·have a:q-u<(ps.drop u).length:=by rw[Yo];omega
   rw[List.findIdx_eq a]
   constructor
   ·have hp:(ps.drop u)[q-u]=ps[q]:=by rw[List.getElem_drop];congr 1;omega
    rw[hp,Xq];exact h4 _ (Yi hq)
   ·intro j hj;have c:u+j<ps.length:=a8;have hp:(ps.drop u)[j]'(ba)=ps[u+j]:=by rw[List.getElem_drop]
    rw[hp,Xy];have:=h3 (u+j) _ a8 a8 (Yi c);omega
  ·have e:q-u=(ps.drop u).length:=by rw[Yo];omega
   rw[e,List.findIdx_eq_length];intro p hp;obtain⟨j,hj⟩:=Vo hp;rw[Xh]at hj;have a:=(Yk.1 hj).1;have:=h3 (u+j) p a8 a8 hj;rw[Xy];omega
 rw[nP,b];omega
theorem ya (h:u≤ps.length):u≤nP ps u t∧nP ps u t≤ps.length∧(∀j p,u≤j→j<nP ps u t→ps[j]? =some p→(p.1:Int)<t)∧∀p,ps[nP ps u t]? =some p→t≤(p.1:Int):=by
 have b:=List.findIdx_le_length (xs:=ps.drop u) (p:=λp=>decide (t≤(p.1:Int)));rw[Yo]at b;refine⟨Nat.le_add_right _ _,by unfold nP;omega,λj p h1 h2 h3=>?_,λp hp=>?_⟩
 ·have h4:j-u<(ps.drop u).findIdx λp=>decide (t≤(p.1:Int)):=by unfold nP at h2;omega
  have h5:=List.not_of_lt_findIdx h4;have hj:=(Yk.1 h3);obtain⟨hj1,c⟩:=hj;rw[List.getElem_drop]at h5;have e:ps[u+(j-u)]'(a8)=p:=by rw[←c];congr 1;omega
  rw[e]at h5;have:=of_decide_eq_false h5;omega
 ·unfold nP at hp;have hlt:=(Yk.1 hp).1;have a:(ps.drop u).findIdx (λp=>decide (t≤(p.1:Int)))<(ps.drop u).length:=ba;have h5:=List.findIdx_getElem (w:=a);rw[List.getElem_drop]at h5;have e:=(Yk.1 hp).2;rw[e]at h5;exact Yt h5
theorem HI (ps:List Po) {a b:Nat}(h:a≤b):ec (ps.take a)≤ec (ps.take b):=by
 have e:ps.take b=ps.take a++(ps.take b).drop a:=by
  conv=>lhs;rw[←Vd a (ps.take b)]
  rw[List.take_take,Ug h]
 rw[e,m6];omega
theorem mE (ps:List Po) (a:Nat):ec (ps.take a)≤ec ps:=by
 conv=>rhs;rw[←Vd a ps,m6]
 omega
theorem EM {n:Nat}(h1:u≤q) (h2:q≤n):mvG n u q≤q+1-u:=by
 unfold mvG
 split
 ·omega
 ·split
  ·omega
  ·split <;> omega
theorem jU.go {c:CuS}(h:jU c) (h1:c.u≤q) (h2:q≤c.ps.length):jU (goC c q):=by
 refine⟨h.ok,h.small,h.tot,by show q+1≤c.ps.length+1;omega,?_⟩;have h3:=EM h1 h2;have h4:=h.mvs;have h5:ec (c.ps.take (if c.told=true then c.u else c.u-1))≤ec (c.ps.take q):=HI _ (by split <;> omega);show c.mv+mvG c.ps.length c.u q≤q+1+ec (c.ps.take (if false=true then q+1 else q+1-1));rw[if_neg ae,X7];omega
theorem jU.adv {c:CuS}(h:jU c) (t:Int):jU (jK c t):=by
 unfold jK
 split
 ·exact h
 ·rename_i hn;have a:c.u≤c.ps.length:=by have:=h.at_;omega
  obtain⟨h1,h2,_⟩:=ya (t:=t) a;exact h.go h1 h2
theorem r8 {c:CuS}(a:c.u=k+1) (h:c.ps[k]? =some p):fj c=p.2:=by rw[fj,a];simp only[];rw[h]
theorem pW {c:CuS}(h:c.u=0∨c.ps.length<c.u):fj c= []:=by
 unfold fj
 split
 ·rfl
 ·rename_i k hk;rw[Xz a8]
theorem jU.pos {c:CuS}(h:jU c):jU (jD c):=by
 unfold jD
 split
 ·exact h
 ·rename_i hn;refine⟨h.ok,h.small,h.tot,h.at_,?_⟩;have a:c.told=false:=by cases hc:c.told with|false=>rfl|true=>exact absurd (.inl hc) hn
  have h4:=h.mvs;rw[if_neg (by rw[a];decide)]at h4;show c.mv+(fj c).length≤c.u+ec (c.ps.take (if true=true then c.u else c.u-1));rw[if_pos rfl];rcases hu:c.u with _|k
  ·exact absurd (.inr (pW (.inl hu))) hn
  ·cases hp:c.ps[k]? with
   |none=>exact absurd (.inr (pW (.inr (by rw[List.getElem?_eq_none_iff]at hp;omega)))) hn
   |some p=>
    rw[r8 hu hp,ry hp];rw[hu,X7]at h4;omega
theorem jU.mvle {c:CuS}(h:jU c):c.mv≤100100001:=by
 have h1:=h.mvs;have h2:=mE c.ps (if c.told=true then c.u else c.u-1);have h3:=h.tot;have h4:=h.at_;have h5:=h.small.1;omega
theorem MV (c:CuS) (t:Int):(jK c t).ps=c.ps:=by unfold jK;split <;> rfl
theorem xy (c:CuS):(jD c).ps=c.ps:=by unfold jD;split <;> rfl
theorem XC (c:CuS):(jD c).u=c.u:=by unfold jD;split <;> rfl
theorem UO {c:CuS}(h:jU c) (a:t≤2147483647):t≤gz (jK c t).ps (jK c t).u:=by
 unfold jK
 split
 ·rename_i hc;rcases hc with hc|hc
  ·exact hc
  ·rw[hc,yq];exact a
 ·rename_i hn;have b:c.u≤c.ps.length:=by have:=h.at_;omega
  obtain⟨h1,h2,h3,h4⟩:=ya (t:=t) b;show t≤gz c.ps (nP c.ps c.u t+1);rw[gz]
  split
  ·rename_i p hp;exact h4 p hp
  ·exact a
end
abbrev Ins:=Nat×Nat×Nat
abbrev VV:=Bool×Nat
structure lI where
 cs:List Int
 offs:List Int
 slop:Int
structure PrG where
 avgs:List Int
 curs:List (Int×ByteArray)
 nears:List lI
 all:Bool
 drive:List Int
 code:List Nat
structure Cfg where
 ins:List Ins
 p:PrG
 lens:List (List Nat)
 ids:List Int
 dead:Nat→Bool
structure MS where
 cs:List CuS
 pl:Int
 steps:Nat
 visits:Nat
def w64 (n:Nat):Nat:=n%18446744073709551616
def fm (n:Nat):Nat:=min n 1048576
def Co (f l a:Nat):Nat:=10240*fm f*max (fm a) 1/(10*fm f*max (fm a) 1+3*max (fm a) 1+9*fm l)
def qo (ls:List (List Nat)) (f d:Nat):Nat:=(ls.getD f []).getD d 0
def fo:CuS:=⟨[],0,0,false⟩
def fJ (d:Int) (c:CuS):CuS:=if gz c.ps c.u<d then jK c d else c
def pT (d:Int) (c:CuS):Bool:=decide (gz c.ps c.u=d)
def sS (c:Cfg) (d w f:Nat) (fd:Int):VV:=(true,w64 (w*Co f (qo c.lens fd.toNat d) (c.p.avgs.getD fd.toNat 0).toNat))
def lX (c:Cfg) (k:Nat):Int:=match c.p.curs[k]? with
 |some x=>x.1
 |none=>0
def qE (c:Cfg) (d a w:Nat) (cs:List CuS):VV×List CuS:=
 (if pT d (fJ d (cs.getD a fo))=true then sS c d w (fj (fJ d (cs.getD a fo))).length (lX c a)else(false,0),cs.set a (fJ d (cs.getD a fo)))
def qt (d:Int):List Int→List CuS→Bool×List CuS
 | [],cs=>(true,cs)
 |k::r,cs=>if pT d (fJ d (cs.getD k.toNat fo))=true then qt d r (cs.set k.toNat (fJ d (cs.getD k.toNat fo)))else(false,cs.set k.toNat (fJ d (cs.getD k.toNat fo)))
def jE:List Int→List CuS→List (List Nat)×List CuS
 | [],cs=>([],cs)
 |k::r,cs=>(fj (cs.getD k.toNat fo)::(jE r (cs.set k.toNat (jD (cs.getD k.toNat fo)))).1,(jE r (cs.set k.toNat (jD (cs.getD k.toNat fo)))).2)
def It (x:Int):List Int→List Int
 | []=>[x]
 |y::l=>if x≤y then x::y::l else y::It x l
def jO (l:List Int):List Int:=l.foldr It []
def kc:List Int→List Int
 | []=>[]
 | [x]=>[x]
 |x::y::l=>if x=y then kc (y::l)else x::kc (y::l)
def gG (l:List Int) (at_:Nat) (b:Int):Nat:=at_+(l.drop at_).findIdx λx=>decide (b≤x)
def pX (l:List Int) (at_:Nat) (b:Int) (slop:Int):Bool:=match l[at_]? with
 |some x=>decide (x≤b+slop)
 |none=>false
def gS (b slop:Int):List (List Int)→List Nat→Bool×List Nat
 |l::ls,a::as_=>(pX l (gG l a b) b slop&&(gS b slop ls as_).1,gG l a b::(gS b slop ls as_).2)
 |_,_=>(true, [])
def kd (slop:Int) (lists:List (List Int)):List Int→List Nat→Nat
 | [],_=>0
 |b::r,at_=>(if(gS b slop lists at_).1=true then 1 else 0)+kd slop lists r (gS b slop lists at_).2
def sR (ps:List Nat) (o:Int):List Int:=jO (ps.map λp:Nat=>(p:Int)-o)
def gX:List (List Nat)→List Int→List (List Int)
 |l::ls,o::os=>sR l o::gX ls os
 |_,_=>[]
def jF (lists:List (List Nat)) (offs:List Int) (slop:Int):Nat:=
 if lists.any (λl=>l.any λp=>decide (2147483646<p))=true then 0 else
 kd slop (gX lists offs) (kc (jO (gX lists offs).flatten)) (List.replicate lists.length 0)
def CO:lI:=⟨[], [],0⟩
def jm (c:Cfg) (d a w:Nat) (cs:List CuS):VV×List CuS:=
 let n:=c.p.nears.getD a CO
 let r:=qt d n.cs cs
 if r.1=false then((false,0),r.2)else
 let t:=jE n.cs r.2
 let f:=jF t.1 n.offs n.slop
 (if f=0 then(false,0)else sS c d w f (lX c (n.cs.headD 0).toNat),t.2)
def eX (st:List VV):VV:=st.getLast?.getD (false,0)
def mi (st:List VV) (f:VV→VV→VV):List VV:=
 let r:=f (eX st.dropLast) (eX st)
 st.dropLast.dropLast++ [(r.1,if r.1=true then r.2 else 0)]
def qy (st:List VV) (f:VV→VV):List VV:=st.dropLast++ [f (eX st)]
def qq (st:List VV):Nat:=(st.filter λv=>v.1).length
def yK (st:List VV):Nat:=st.foldl (λs v=>if v.1=true then w64 (s+v.2)else s) 0
def opV (c:Cfg) (d:Nat) (x:Ins) (pc:Nat) (st:List VV) (cs:List CuS):Nat×List VV×List CuS:=
 match x.1 with
 | 1=>(pc,st++ [(false,0)],cs)
 | 2=>(pc,st++ [(true,262144)],cs)
 | 3=>(pc,st++ [if 0<qo c.lens x.2.1 d then(true,262144)else(false,0)],cs)
 | 4=>(pc,st++ [(qE c d x.2.1 x.2.2 cs).1],(qE c d x.2.1 x.2.2 cs).2)
 | 5=>(pc,st++ [(jm c d x.2.1 x.2.2 cs).1],(jm c d x.2.1 x.2.2 cs).2)
 | 6=>(pc,mi st λa b=>(a.1&&b.1,w64 (a.2+b.2)),cs)
 | 7=>(pc,mi st λa b=>(a.1 ||b.1,w64 (a.2+b.2)),cs)
 | 8=>(pc,mi st λa b=>(a.1 ||b.1,max a.2 b.2),cs)
 | 9=>(pc,mi st λa b=>(a.1,w64 (a.2+b.2)),cs)
 | 10=>(pc,mi st λa b=>(a.1&&!b.1,a.2),cs)
 | 11=>(pc,qy st λa=>(!a.1,0),cs)
 | 12=>(pc,qy st λa=>(a.1,w64 (a.2*x.2.1)),cs)
 | 13=>(pc,qy st λa=>if a.1=true then(true,w64 (x.2.1*262144))else(false,0),cs)
 | 14=>(pc,st.take (st.length-x.2.1)++ [if x.2.2≤qq (st.drop (st.length-x.2.1))then(true,yK (st.drop (st.length-x.2.1)))else(false,0)],cs)
 | 15=>(if(eX st).1=true then pc else pc+x.2.1,st,cs)
 | 16=>(if(eX st).1=true then pc+x.2.1 else pc,st,cs)
 |_=>(pc,st,cs)
def lD (c:Cfg) (pc:Nat):Ins:=c.ins.getD pc (0,0,0)
def mF (c:Cfg) (d:Nat):Nat→Nat→List VV→List CuS→Nat→VV×List CuS×Nat
 | 0,_,st,cs,k=>(eX st,cs,k)
 |n+1,pc,st,cs,k=>
  if(lD c pc).1=0 then(eX st,cs,k+1)else
  mF c d n (opV c d (lD c pc) (pc+1) st cs).1 (opV c d (lD c pc) (pc+1) st cs).2.1 (opV c d (lD c pc) (pc+1) st cs).2.2 (k+1)
def jh (c:Cfg) (s:MS):VV×MS:=
 let r:=mF c s.pl.toNat c.ins.length 0 [] s.cs s.steps
 (r.1,⟨r.2.1,s.pl,r.2.2,s.visits+1⟩)
def fR (pl:Int) (c:CuS):CuS:=if gz c.ps c.u≤pl then jK c (pl+1)else c
def jJ (pl:Int):List Int→List CuS→Int→List CuS×Int
 | [],cs,le=>(cs,le)
 |k::r,cs,le=>jJ pl r (cs.set k.toNat (fR pl (cs.getD k.toNat fo))) (min le (gz (fR pl (cs.getD k.toNat fo)).ps (fR pl (cs.getD k.toNat fo)).u))
def kU (c:Cfg) (d:Int):Bool:=decide (0≤d)&&decide (d.toNat<c.ids.length)&&!c.dead d.toNat
def fE (c:Cfg):Nat→Int→List CuS→Bool×Int×List CuS
 | 0,pl,cs=>(false,pl,cs)
 |n+1,pl,cs=>
  if(jJ pl c.p.drive cs 2147483647).2=2147483647 then(false,pl,(jJ pl c.p.drive cs 2147483647).1)else
  if kU c (jJ pl c.p.drive cs 2147483647).2=true then(true,(jJ pl c.p.drive cs 2147483647).2,(jJ pl c.p.drive cs 2147483647).1)else
  fE c n (jJ pl c.p.drive cs 2147483647).2 (jJ pl c.p.drive cs 2147483647).1
def lj (c:Cfg) (i:Nat):Option Nat:=((List.range c.ids.length).drop i).find? λd=>!c.dead d
def eQ (c:Cfg) (s:MS):Bool×MS:=
 if c.p.all=true then
  match lj c (s.pl+1).toNat with
  |some d=>(true,⟨s.cs,(d:Int),s.steps,s.visits⟩)
  |none=>(false,s)
 else((fE c 2147483648 s.pl s.cs).1,⟨(fE c 2147483648 s.pl s.cs).2.2,(fE c 2147483648 s.pl s.cs).2.1,s.steps,s.visits⟩)
abbrev Hit:=Int×Nat
def qZ (c:Cfg):Nat→MS→Option Hit×MS
 | 0,s=>(none,s)
 |n+1,s=>
  if(eQ c s).1=false then(none,(eQ c s).2)else
  if(jh c (eQ c s).2).1.1=true then(some (c.ids.getD (eQ c s).2.pl.toNat 0,(jh c (eQ c s).2).1.2),(jh c (eQ c s).2).2)else
  qZ c n (jh c (eQ c s).2).2
def fh (c:Cfg) (s:MS):Option Hit×MS:=qZ c (c.ids.length+1) s
def nJ (c:Cfg):Nat→MS→List Hit×MS
 | 0,s=>([],s)
 |n+1,s=>match (fh c s).1 with
  |none=>([],(fh c s).2)
  |some h=>(h::(nJ c n (fh c s).2).1,(nJ c n (fh c s).2).2)
def Kl (c:Cfg) (s:MS):List Hit×MS:=nJ c (c.ids.length+1) s
def rF (s:MS):Nat:=(s.cs.map (·.mv)).sum
def mn (pss:List (List Po)):MS:=⟨pss.map λps=>⟨ps,0,0,false⟩, -1,0,0⟩
def fw (x:Int) (n:Nat):Bool:=decide (0≤x)&&decide (x<(n:Int))
def sF (p:PrG) (n:lI):List Int→List Int→Bool
 | [],_=>true
 |k::r,os=>fw k p.curs.length&&fw (os.headD 0) 2147483647&&decide ((match p.curs[k.toNat]? with|some x=>x.1|none=>0)=(match p.curs[(n.cs.headD 0).toNat]? with|some x=>x.1|none=>0))&&sF p n r os.tail
def fQ (p:PrG) (n:lI):Bool:=decide (1≤n.cs.length)&&decide (n.offs.length=n.cs.length)&&fw n.slop 2147483647&&sF p n n.cs n.offs
def jq (p:PrG):Option Int→List Int→Bool
 |_, []=>true
 |b,k::r=>fw k p.curs.length&&(match b with|none=>true|some x=>decide (x<k))&&jq p (some k) r
def iP (p:PrG):Bool:=decide (1≤p.avgs.length)&&decide (p.avgs.length≤16)&&p.avgs.all (λa=>decide (0≤a))&&p.curs.all (λc=>fw c.1 p.avgs.length&&decide (c.2.size≤64))&&p.nears.all (fQ p)&&!(p.all&&decide (0<p.drive.length))&&jq p none p.drive
def ng (p:PrG) (x:Ins):Bool:=match x.1 with
 | 3=>decide (x.2.1<p.avgs.length)
 | 4=>decide (x.2.1<p.curs.length)
 | 5=>decide (x.2.1<p.nears.length)
 | 14=>decide (1≤x.2.1)&&decide (1≤x.2.2)&&decide (x.2.2≤x.2.1)
 |_=>true
def jw (x:Ins) (h:Nat):Option Nat:=match x.1 with
 | 1=>some (h+1)
 | 2=>some (h+1)
 | 3=>some (h+1)
 | 4=>some (h+1)
 | 5=>some (h+1)
 | 6=>if 2≤h then some (h-1)else none
 | 7=>if 2≤h then some (h-1)else none
 | 8=>if 2≤h then some (h-1)else none
 | 9=>if 2≤h then some (h-1)else none
 | 10=>if 2≤h then some (h-1)else none
 | 14=>if h<x.2.1 then none else some (h-x.2.1+1)
 | 0=>if h=1 then some h else none
 |_=>if 1≤h then some h else none
abbrev Hs:=List (Option Nat)
def kD (hs:Hs) (i h:Nat):Option Hs:=match hs.getD i none with
 |none=>some (hs.set i (some h))
 |some k=>if k=h then some hs else none
def sX (x:Ins):Bool:=decide (x.1=15) ||decide (x.1=16)
def jr (p:PrG) (code:List Ins):Nat→Nat→Hs→Option Hs
 | 0,_,hs=>some hs
 |n+1,i,hs=>
  match jw (code.getD i (0,0,0)) ((hs.getD i none).getD 0)with
  |none=>none
  |some h=>
   if decide (i+1=code.length)=decide ((code.getD i (0,0,0)).1=0)∧ng p (code.getD i (0,0,0))=true then
        if i+1=code.length then some hs else
        match kD hs (i+1) h with
        |none=>none
        |some hs1=>
         if sX (code.getD i (0,0,0))=true then
          if code.length-2-i<(code.getD i (0,0,0)).2.1 then none else
          match kD hs1 (i+1+(code.getD i (0,0,0)).2.1) h with
          |none=>none
          |some hs2=>jr p code n (i+1) hs2
         else jr p code n (i+1) hs1
   else none
def hs0 (n:Nat):Hs:=(List.replicate n none).set 0 (some 0)
def nI (op:Nat):Option Nat:= [0,0,0,1,2,2,0,0,0,0,0,0,1,1,2,1,1][op]?
def mO:Nat→List Nat→Option (List Nat×List Nat)
 | 0,l=>some ([],l)
 |n+1,l=>match iz 0 l with
  | .error _=>none
  | .ok (v,m)=>match mO n (l.drop m)with
   |none=>none
   |some (vs,r)=>some (v::vs,r)
def LD (op:Nat) (vs:List Nat):Ins:=(op,vs.getD 0 0,vs.getD 1 0)
def lA:Nat→List Nat→Option (List Ins)
 | 0,_=>some []
 |_+1, []=>some []
 |n+1,op::l=>match nI op with
  |none=>none
  |some k=>match mO k l with
   |none=>none
   |some (vs,r)=>match lA n r with
    |none=>none
    |some xs=>some (LD op vs::xs)
def lu (p:PrG):Option (List Ins):=lA p.code.length p.code
def gA (p:PrG):Option Hs:=match lu p with
 |none=>none
 |some code=>if code.length=0∨iP p=false then none else jr p code code.length 0 (hs0 code.length)
section
variable {c:Cfg}{cs:List CuS}{d pl:Int}{pss:List (List Po)}{s:MS}
structure iq (pss:List (List Po)) (cs:List CuS):Prop where
 same:cs.map (·.ps)=pss
 ok:∀c∈cs,jU c
theorem iq.len (h:iq pss cs):cs.length=pss.length:=by rw[←h.same,Yh]
theorem iq.get (h:iq pss cs){k:Nat}{c:CuS}(hk:cs[k]? =some c):jU c:=h.ok c (Yj hk)
theorem iq.set (h:iq pss cs){f:CuS→CuS}(k:Nat) (hf:∀c,jU c→jU (f c)) (hp:∀c,(f c).ps=c.ps):iq pss (cs.set k (f (cs.getD k fo))):=by
 rcases Us k cs.length with hk|hk
 ·have a:cs[k]? =some cs[k]:=Yi hk;have hd:cs.getD k fo=cs[k]:=by rw[Xj,a];rfl
  rw[hd];refine⟨?_,λc hc=>?_⟩
  ·rw[←h.same];apply Vz;intro j;rw[Xd,Xd,Vf]
   by_cases hj:k=j
   ·subst hj;rw[if_pos rfl,if_pos hk,a];simp[hp]
   ·rw[if_neg hj]
  ·rcases R6 hc with hc|rfl
   ·exact h.ok c hc
   ·exact hf _ (h.get a)
 ·rw[List.set_eq_of_length_le hk];exact h
theorem qL {c:CuS}(h:jU c):jU (fJ d c):=by unfold fJ;split;exact h.adv d;exact h
theorem qK (d:Int) (c:CuS):(fJ d c).ps=c.ps:=by unfold fJ;split;exact MV c d;rfl
theorem rf {c:CuS}(h:jU c):jU (fR pl c):=by unfold fR;split;exact h.adv _;exact h
theorem oY (pl:Int) (c:CuS):(fR pl c).ps=c.ps:=by unfold fR;split;exact MV c _;rfl
theorem yB:∀{ks:List Int}{cs:List CuS},iq pss cs→iq pss (qt d ks cs).2
 | [],_,h=>h
 |k::r,cs,h=>by
  have h1:=h.set k.toNat (λc hc=>qL (d:=d) hc) (λc=>qK d c);rw[qt]
  split
  ·exact yB h1
  ·exact h1
theorem wV:∀{ks:List Int}{cs:List CuS},iq pss cs→iq pss (jE ks cs).2
 | [],_,h=>h
 |k::r,cs,h=>wV (ks:=r) (h.set k.toNat (λc hc=>hc.pos) xy)
theorem JE {d a w:Nat}(h:iq pss cs):iq pss (qE c d a w cs).2:=h.set a (λc hc=>qL hc) (λc=>qK _ c)
theorem ED {d a w:Nat}(h:iq pss cs):iq pss (jm c d a w cs).2:=by
 unfold jm;simp only[]
 split
 ·exact yB h
 ·exact wV (yB h)
theorem EI {d:Nat}{x:Ins}{pc:Nat}{st:List VV}(h:iq pss cs):iq pss (opV c d x pc st cs).2.2:=by
 unfold opV
 split
 all_goals (try simp only[])
 all_goals (first|exact h|exact JE h|exact ED h)
theorem AG {pss:List (List Po)}{c:Cfg}{d:Nat}:∀(n pc:Nat) (st:List VV) (cs:List CuS) (k:Nat),iq pss cs→iq pss (mF c d n pc st cs k).2.1∧k≤(mF c d n pc st cs k).2.2∧(mF c d n pc st cs k).2.2≤k+n
 | 0,pc,st,cs,k,h=>⟨h,Xl _,Xl _⟩
 |n+1,pc,st,cs,k,h=>by
  rw[mF]
  split
  ·exact⟨h,aq,aq⟩
  ·obtain⟨h1,h2,h3⟩:=AG (c:=c) (d:=d) n _ _ _ (k+1) (EI (c:=c) (d:=d) (x:=lD c pc) (pc:=pc+1) (st:=st) h);exact⟨h1,a8,a8⟩
structure lT (c:Cfg) (pss:List (List Po)) (s:MS):Prop where
 cs:iq pss s.cs
 lo: -1≤s.pl
 hi:s.pl<2147483647
 vis:(s.visits:Int)≤s.pl+1
 stp:s.steps≤s.visits*c.ins.length
theorem Ju (h:iq pss s.cs):iq pss (jh c s).2.cs∧(jh c s).2.pl=s.pl∧(jh c s).2.visits=s.visits+1∧s.steps≤(jh c s).2.steps∧(jh c s).2.steps≤s.steps+c.ins.length:=by
 obtain⟨h1,h2,h3⟩:=AG (c:=c) (d:=s.pl.toNat) c.ins.length 0 [] s.cs s.steps h;exact⟨h1,rfl,rfl,h2,h3⟩
theorem Bn:∀{ks:List Int}{cs:List CuS}{le:Int},iq pss cs→iq pss (jJ pl ks cs le).1
 | [],_,_,h=>h
 |k::r,cs,le,h=>Bn (ks:=r) (h.set k.toNat (λc hc=>rf hc) (oY pl))
theorem ym {c:CuS}(h:jU c) (hp:pl+1≤2147483647):pl<gz (fR pl c).ps (fR pl c).u:=by
 unfold fR
 split
 ·have:=UO h hp;omega
 ·omega
theorem Bo (hp:pl+1≤2147483647):∀{ks:List Int}{cs:List CuS}{le:Int},iq pss cs→(∀k∈ks,0≤k∧k<(pss.length:Int))→pl<le→pl<(jJ pl ks cs le).2
 | [],_,_,_,_,hl=>hl
 |k::r,cs,le,h,hk,hl=>by
  obtain⟨h0,h1⟩:=hk k aq;have a:k.toNat<cs.length:=by rw[h.len];omega
  have b:cs[k.toNat]? =some cs[k.toNat]:=Yi a;have hd:cs.getD k.toNat fo=cs[k.toNat]:=by rw[Xj,b];rfl
  refine Bo hp (ks:=r) (h.set k.toNat (λc hc=>rf hc) (oY pl)) (λx hx=>hk x (Xa _ hx)) ?_;have:=ym (pl:=pl) (h.get b) hp;rw[hd];omega
theorem wE:∀{ks:List Int}{cs:List CuS}{le:Int},(jJ pl ks cs le).2≤le
 | [],_,_=>T8 _
 |k::r,cs,le=>Int.le_trans (wE (ks:=r)) (Int.min_le_left _ _)
def lq (c:Cfg) (n:Nat):Prop:=∀k∈c.p.drive,0≤k∧k<(n:Int)
theorem yC (h:kU c d=true):0≤d∧d<(c.ids.length:Int):=by
 unfold kU at h;simp only[Xu,Xq]at h;omega
theorem zf (a:lq c pss.length):∀(n:Nat) (pl:Int) (cs:List CuS), -1≤pl→pl<2147483647→iq pss cs→
 iq pss (fE c n pl cs).2.2∧pl≤(fE c n pl cs).2.1∧(fE c n pl cs).2.1<2147483647∧((fE c n pl cs).1=true→pl<(fE c n pl cs).2.1∧kU c (fE c n pl cs).2.1=true)
 | 0,pl,cs,h1,h2,h=>⟨h,T8 _,h2,λh=>bx⟩
 |n+1,pl,cs,h1,h2,h=>by
  have hc:=Bn (pl:=pl) (ks:=c.p.drive) (le:=2147483647) h;have d:=Bo (pl:=pl) a8 (le:=2147483647) h a a8;have hl:=wE (pl:=pl) (ks:=c.p.drive) (cs:=cs) (le:=2147483647);rw[fE]
  split
  ·exact⟨hc,T8 _,h2,λh=>bx⟩
  ·rename_i hne
   split
   ·rename_i ha;exact⟨hc,Int.le_of_lt d,by show(jJ pl c.p.drive cs 2147483647).2<2147483647;omega,λ_=>⟨d,ha⟩⟩
   ·obtain⟨f,i2,e,b⟩:=zf a n (jJ pl c.p.drive cs 2147483647).2 (jJ pl c.p.drive cs 2147483647).1 a8 a8 hc;exact⟨f,a8,e,λh=>⟨by have:=(b h).1;omega,(b h).2⟩⟩
theorem Pd {i d:Nat}(h:lj c i=some d):i≤d∧d<c.ids.length∧c.dead d=false:=by
 unfold lj at h;have h1:=List.mem_of_find?_eq_some h;have h2:=List.find?_some h;obtain⟨j,hj⟩:=Vo h1;rw[Xh]at hj;have a:=(Yk.1 hj).1;rw[List.length_range]at a;rw[Ur a]at hj;obtain rfl:=Xk hj;exact⟨a8,a,cD⟩
theorem qV (e:lq c pss.length) (hn:c.ids.length≤2147483647) (h:lT c pss s):lT c pss (eQ c s).2∧(eQ c s).2.steps=s.steps∧(eQ c s).2.visits=s.visits∧s.pl≤(eQ c s).2.pl∧((eQ c s).1=true→s.pl<(eQ c s).2.pl∧kU c (eQ c s).2.pl=true):=by
 unfold eQ;have a:=h.lo;have b:=h.hi;have hv:=h.vis
 split
 ·cases hd:lj c (s.pl+1).toNat with
  |none=>exact⟨h,rfl,rfl,T8 _,λh=>bx⟩
  |some d=>
   obtain⟨h1,h2,h3⟩:=Pd hd;refine⟨⟨h.cs,by show(-1:Int)≤(d:Int);omega,by show(d:Int)<2147483647;omega,by show(s.visits:Int)≤(d:Int)+1;omega,h.stp⟩,rfl,rfl,by show s.pl≤(d:Int);omega,λ_=>⟨by show s.pl<(d:Int);omega,?_⟩⟩;show kU c (d:Int)=true;unfold kU;simp[h2,h3]
 ·obtain⟨j,i,g,f⟩:=zf e 2147483648 s.pl s.cs a b h.cs;exact⟨⟨j,by show(-1:Int)≤(fE c 2147483648 s.pl s.cs).2.1;omega,g,by show(s.visits:Int)≤(fE c 2147483648 s.pl s.cs).2.1+1;omega,h.stp⟩,rfl,rfl,i,f⟩
theorem wT (b:lq c pss.length) (hn:c.ids.length≤2147483647) (h:lT c pss s) (hy:(eQ c s).1=true):lT c pss (jh c (eQ c s).2).2∧s.steps≤(jh c (eQ c s).2).2.steps∧s.pl<(jh c (eQ c s).2).2.pl∧kU c (jh c (eQ c s).2).2.pl=true:=by
 obtain⟨h1,h2,h3,h4,h5⟩:=qV b hn h;obtain⟨h6,f⟩:=h5 hy;obtain⟨e,a,d,v4,v5⟩:=Ju (c:=c) h1.cs;refine⟨⟨e,by rw[a];exact h1.lo,by rw[a];exact h1.hi,?_,?_⟩,a8,by rw[a];exact h6,by rw[a];exact f⟩
 ·rw[a,d,h3];have:=h.vis;have:=h1.lo;omega
 ·rw[d,Vy,Nat.one_mul];have:=h1.stp;omega
theorem rJ (a:lq c pss.length) (hn:c.ids.length≤2147483647):∀(n:Nat) (s:MS),lT c pss s→lT c pss (qZ c n s).2∧s.steps≤(qZ c n s).2.steps∧s.pl≤(qZ c n s).2.pl∧((qZ c n s).1≠none→s.pl<(qZ c n s).2.pl∧(qZ c n s).2.pl<(c.ids.length:Int))
 | 0,s,h=>⟨h,Xl _,T8 _,λh=>absurd rfl h⟩
 |n+1,s,h=>by
  obtain⟨h1,h2,h3,h4,h5⟩:=qV a hn h;rw[qZ]
  split
  ·exact⟨h1,by rw[h2];exact Xl _,h4,λh=>absurd rfl h⟩
  ·rename_i hy;obtain⟨d,g,b,f⟩:=wT a hn h (by simpa using hy)
   split
   ·exact⟨d,g,Int.le_of_lt b,λ_=>⟨b,(yC f).2⟩⟩
   ·obtain⟨i,i2,i3,e⟩:=rJ a hn n _ d;exact⟨i,a8,a8,λh=>⟨by have:=(e h).1;omega,(e h).2⟩⟩
theorem Hx (a:lq c pss.length) (hn:c.ids.length≤2147483647):∀(n:Nat) (s:MS),lT c pss s→lT c pss (nJ c n s).2∧s.steps≤(nJ c n s).2.steps
 | 0,s,h=>⟨h,Xl _⟩
 |n+1,s,h=>by
  obtain⟨h1,h2,h3,h4⟩:=rJ a hn (c.ids.length+1) s h;rw[nJ];unfold fh
  split
  ·exact⟨h1,h2⟩
  ·obtain⟨d,b⟩:=Hx a hn n _ h1;exact⟨d,Xi h2 b⟩
theorem K3 (h:∀a∈pss,j5 0 a∧fL a∧ec a≤100000000):lT c pss (mn pss):=by
 refine⟨⟨?_,?_⟩,(by decide:(-1:Int)≤ -1),(by decide:(-1:Int)<2147483647),(by decide:((0:Nat):Int)≤ -1+1),Yl _⟩
 ·simp[mn,Uo,Function.comp_def]
 ·intro x hx;obtain⟨a,b,rfl⟩:=Xt.1 hx;obtain⟨h1,h2,h3⟩:=h a b;exact⟨h1,h2,h3,Yl _,Yl _⟩
end
section
variable {hs:Hs}{p:PrG}{st:List VV}
structure FH (p:PrG) (code:List Ins) (hs:Hs) (j:Nat):Prop where
 ex:∃h h',hs.getD j none=some h∧jw (code.getD j (0,0,0)) h=some h'∧(j+1=code.length↔(code.getD j (0,0,0)).1=0)∧ng p (code.getD j (0,0,0))=true∧
  (j+1<code.length→hs.getD (j+1) none=some h'∧(sX (code.getD j (0,0,0))=true→(code.getD j (0,0,0)).2.1≤code.length-2-j∧hs.getD (j+1+(code.getD j (0,0,0)).2.1) none=some h'))
theorem zr {a:Hs}{i h:Nat}(hm:kD hs i h=some a) (hi:i<hs.length):a.length=hs.length∧a.getD i none=some h∧∀j k,hs.getD j none=some k→a.getD j none=some k:=by
 unfold kD at hm
 split at hm
 ·rename_i hn;obtain rfl:=Xk hm;refine⟨Ub ..,by rw[Xj,Ue hi];rfl,λj k hj=>?_⟩
  by_cases e:i=j
  ·subst e;rw[hn]at hj;cases hj
  ·rw[Xj,List.getElem?_set_ne e,←Xj];exact hj
 ·rename_i k hk
  split at hm
  ·rename_i e;obtain rfl:=Xk hm;exact⟨rfl,by rw[hk,e],λ_ _ h=>h⟩
  ·cases hm
theorem yw {a:List Ins}:∀(n i:Nat) (hs hs':Hs),n+i=a.length→hs.length=a.length→(i<a.length→∃h,hs.getD i none=some h)→jr p a n i hs=some hs'→
 (∀j k,hs.getD j none=some k→hs'.getD j none=some k)∧hs'.length=a.length∧∀j,i≤j→j<a.length→FH p a hs' j
 | 0,i,hs,hs',hn,hl,_,h=>by
  obtain rfl:=Xk h;exact⟨λ_ _ h=>h,hl,λj h1 h2=>a8⟩
 |n+1,i,hs,hs',hn,hl,hi,h=>by
  obtain⟨h0,d⟩:=hi a8;rw[jr,d,V4]at h
  split at h
  ·cases h
  ·rename_i h1 he
   split at h
   ·rename_i hc;have b:(i+1=a.length↔(a.getD i (0,0,0)).1=0):=by simpa using hc.1
    split at h
    ·rename_i hL;obtain rfl:=Xk h;refine⟨λ_ _ h=>h,hl,λj g c=>?_⟩;obtain rfl:j=i:=a8;exact⟨⟨h0,h1,d,he,b,hc.2,λhh=>a8⟩⟩
    ·rename_i hL
     split at h
     ·cases h
     ·rename_i s u;obtain⟨a1,q,m⟩:=zr u a8
      split at h
      ·rename_i y
       split at h
       ·cases h
       ·rename_i hA
        split at h
        ·cases h
        ·rename_i r t;obtain⟨b1,z,l⟩:=zr t a8;obtain⟨f,x,w⟩:=yw n (i+1) r hs' a8 a8 (λ_=>⟨h1,l _ _ q⟩) h;refine⟨λj k hj=>f _ _ (l _ _ (m _ _ hj)),x,λj g c=>?_⟩
         by_cases e:j=i
         ·subst e;exact⟨⟨h0,h1,f _ _ (l _ _ (m _ _ d)),he,b,hc.2,λ_=>⟨f _ _ (l _ _ q),λ_=>⟨a8,f _ _ z⟩⟩⟩⟩
         ·exact w j a8 c
      ·rename_i y;obtain⟨f,x,w⟩:=yw n (i+1) s hs' a8 a8 (λ_=>⟨h1,q⟩) h;refine⟨λj k hj=>f _ _ (m _ _ hj),x,λj g c=>?_⟩
       by_cases e:j=i
       ·subst e;exact⟨⟨h0,h1,f _ _ (m _ _ d),he,b,hc.2,λ_=>⟨f _ _ q,λv=>absurd v y⟩⟩⟩
       ·exact w j a8 c
   ·cases h
structure yG (p:PrG) (code:List Ins) (hs:Hs):Prop where
 dec:lu p=some code
 ne:0<code.length
 tab:iP p=true
 at0:hs.getD 0 none=some 0
 step:∀j,j<code.length→FH p code hs j
theorem vz (h:gA p=some hs):∃a,yG p a hs:=by
 unfold gA at h
 split at h
 ·cases h
 ·rename_i a hc
  split at h
  ·cases h
  ·rename_i hn;have b:0<a.length:=Nat.pos_of_ne_zero λe=>hn (.inl e);have c:iP p=true:=by cases e:iP p with|true=>rfl|false=>exact absurd (.inr e) hn
   have h0:(hs0 a.length).getD 0 none=some 0:=by
    unfold hs0;rw[Xj,Ue (by simpa using b)];rfl
   obtain⟨f,c2,d⟩:=yw a.length 0 _ hs a8 (by simp[hs0]) (λ_=>⟨0,h0⟩) h;exact⟨a,hc,b,c,f _ _ h0,λj hj=>d j (Yl _) hj⟩
theorem qC {f:VV→VV→VV}(h:2≤st.length):(mi st f).length=st.length-1:=by simp[mi];omega
theorem xB {f:VV→VV}(h:1≤st.length):(qy st f).length=st.length:=by simp[qy];omega
theorem oB {n:Nat}(v:VV) (h:st.length+1=n):(st++ [v]).length=n:=by rw[Ya,Ul];exact h
theorem CG {c:Cfg}{d pc:Nat}{cs:List CuS}(s:FH c.p c.ins hs pc) (hp:pc<c.ins.length) (p:hs.getD pc none=some st.length) (h0:(lD c pc).1≠0):
 pc<(opV c d (lD c pc) (pc+1) st cs).1∧(opV c d (lD c pc) (pc+1) st cs).1<c.ins.length∧hs.getD (opV c d (lD c pc) (pc+1) st cs).1 none=some (opV c d (lD c pc) (pc+1) st cs).2.1.length:=by
 obtain⟨h,i,r,f,u,v,t⟩:=s.ex;rw[p]at r;obtain rfl:=Xk r;have hne:¬pc+1=c.ins.length:=λe=>h0 (u.1 e);obtain⟨q,k⟩:=t a8;have g:∀j:List VV,j.length=i→pc<pc+1∧pc+1<c.ins.length∧hs.getD (pc+1) none=some j.length:=λj hl=>⟨a8,a8,by rw[hl];exact q⟩;change jw (lD c pc) st.length=some i at f;change sX (lD c pc)=true→(lD c pc).2.1≤c.ins.length-2-pc∧hs.getD (pc+1+(lD c pc).2.1) none=some i at k;clear u v t s r;generalize lD c pc=x at*;obtain⟨op,A,B⟩:=x
 match op,f,k,h0 with
 | 0,_,_,h0=>exact absurd rfl h0
 | 1,f,_,_=>exact g _ (oB _ (Xk f))
 | 2,f,_,_=>exact g _ (oB _ (Xk f))
 | 3,f,_,_=>exact g _ (oB _ (Xk f))
 | 4,f,_,_=>exact g _ (oB _ (Xk f))
 | 5,f,_,_=>exact g _ (oB _ (Xk f))
 | 6,f,_,_=>
  have h2:2≤st.length∧st.length-1=i:=by
   change (if 2≤st.length then some (st.length-1)else none)=some i at f
   split at f
   ·exact⟨aU,Xk f⟩
   ·cases f
  exact g (mi st (λa b=>(a.1&&b.1,w64 (a.2+b.2)))) ((qC h2.1).trans h2.2)
 | 7,f,_,_=>
  have h2:2≤st.length∧st.length-1=i:=by
   change (if 2≤st.length then some (st.length-1)else none)=some i at f
   split at f
   ·exact⟨aU,Xk f⟩
   ·cases f
  exact g (mi st (λa b=>(a.1 ||b.1,w64 (a.2+b.2)))) ((qC h2.1).trans h2.2)
 | 8,f,_,_=>
  have h2:2≤st.length∧st.length-1=i:=by
   change (if 2≤st.length then some (st.length-1)else none)=some i at f
   split at f
   ·exact⟨aU,Xk f⟩
   ·cases f
  exact g (mi st (λa b=>(a.1 ||b.1,max a.2 b.2))) ((qC h2.1).trans h2.2)
 | 9,f,_,_=>
  have h2:2≤st.length∧st.length-1=i:=by
   change (if 2≤st.length then some (st.length-1)else none)=some i at f
   split at f
   ·exact⟨aU,Xk f⟩
   ·cases f
  exact g (mi st (λa b=>(a.1,w64 (a.2+b.2)))) ((qC h2.1).trans h2.2)
 | 10,f,_,_=>
  have h2:2≤st.length∧st.length-1=i:=by
   change (if 2≤st.length then some (st.length-1)else none)=some i at f
   split at f
   ·exact⟨aU,Xk f⟩
   ·cases f
  exact g (mi st (λa b=>(a.1&&!b.1,a.2))) ((qC h2.1).trans h2.2)
 | 11,f,_,_=>
  have h1:1≤st.length∧st.length=i:=by
   change (if 1≤st.length then some st.length else none)=some i at f
   split at f
   ·exact⟨aU,Xk f⟩
   ·cases f
  exact g (qy st (λa=>(!a.1,0))) ((xB h1.1).trans h1.2)
 | 12,f,_,_=>
  have h1:1≤st.length∧st.length=i:=by
   change (if 1≤st.length then some st.length else none)=some i at f
   split at f
   ·exact⟨aU,Xk f⟩
   ·cases f
  exact g (qy st (λa=>(a.1,w64 (a.2*A)))) ((xB h1.1).trans h1.2)
 | 13,f,_,_=>
  have h1:1≤st.length∧st.length=i:=by
   change (if 1≤st.length then some st.length else none)=some i at f
   split at f
   ·exact⟨aU,Xk f⟩
   ·cases f
  exact g (qy st (λa=>if a.1=true then(true,w64 (A*262144))else(false,0))) ((xB h1.1).trans h1.2)
 | 14,f,_,_=>
  have h1:A≤st.length∧st.length-A+1=i:=by
   change (if st.length<A then none else some (st.length-A+1))=some i at f
   split at f
   ·cases f
   ·exact⟨a8,Xk f⟩
  exact g _ (oB (st:=st.take (st.length-A)) _ az)
 | 15,f,k,_=>
  have h1:1≤st.length∧st.length=i:=by
   change (if 1≤st.length then some st.length else none)=some i at f
   split at f
   ·exact⟨aU,Xk f⟩
   ·cases f
  obtain⟨m,l⟩:=k rfl;change A≤c.ins.length-2-pc at m;change hs.getD (pc+1+A) none=some i at l;change pc<(if(eX st).1=true then pc+1 else pc+1+A)∧(if(eX st).1=true then pc+1 else pc+1+A)<c.ins.length∧hs.getD (if(eX st).1=true then pc+1 else pc+1+A) none=some st.length;rw[h1.2]
  split
  ·exact⟨a8,a8,q⟩
  ·exact⟨a8,a8,l⟩
 | 16,f,k,_=>
  have h1:1≤st.length∧st.length=i:=by
   change (if 1≤st.length then some st.length else none)=some i at f
   split at f
   ·exact⟨aU,Xk f⟩
   ·cases f
  obtain⟨m,l⟩:=k rfl;change A≤c.ins.length-2-pc at m;change hs.getD (pc+1+A) none=some i at l;change pc<(if(eX st).1=true then pc+1+A else pc+1)∧(if(eX st).1=true then pc+1+A else pc+1)<c.ins.length∧hs.getD (if(eX st).1=true then pc+1+A else pc+1) none=some st.length;rw[h1.2]
  split
  ·exact⟨a8,a8,l⟩
  ·exact⟨a8,a8,q⟩
 |n+17,f,_,_=>
  have h1:1≤st.length∧st.length=i:=by
   change (if 1≤st.length then some st.length else none)=some i at f
   split at f
   ·exact⟨aU,Xk f⟩
   ·cases f
  exact g _ h1.2
end
section
variable {ws:List Nat}
def l8 (ws:List Nat) (i:Nat):Bool:=(ws.getD (i/64) 0).testBit (i%64)
def J4 (ws:List Nat) (i:Nat):List Nat:=ws.set (i/64) (ws.getD (i/64) 0 ||| 2^(i%64))
def okW (ws:List Nat):Prop:=∀x∈ws,x<18446744073709551616
theorem xC (h:okW ws) (i:Nat):ws.getD i 0<18446744073709551616:=by
 rw[Xj];cases hi:ws[i]? with
 |none=>simp
 |some x=>exact h x (Yj hi)
theorem QV {k:Nat}(h:k<64):2^k<18446744073709551616:=by
 have:(18446744073709551616:Nat)=2^64:=ae;rw[this];exact Nat.pow_lt_pow_right ae h
theorem Qo (h:okW ws) (i:Nat):okW (J4 ws i):=λx hx=>by
 rcases R6 hx with hx|rfl
 ·exact h x hx
 ·have h1:=xC h (i/64);have h2:=QV (k:=i%64) (V2 _ ae);have e:(18446744073709551616:Nat)=2^64:=ae;rw[e]at h1 h2⊢;exact U7 h1 h2
theorem MZ (ws:List Nat) (i:Nat):(J4 ws i).length=ws.length:=Ub ..
theorem MQ {i:Nat}(h:i/64<ws.length) (j:Nat):l8 (J4 ws i) j=(decide (j=i) ||l8 ws j):=by
 unfold l8 J4
 by_cases hj:j/64=i/64
 ·rw[hj,Xj,Ue h,V4,Nat.testBit_or,Nat.testBit_two_pow,Bool.or_comm];congr 1;exact Vm.2 a8
 ·rw[Xj,List.getElem?_set_ne (λh=>hj h.symm),←Xj,Yr (by rintro rfl;exact hj rfl),Q8]
theorem Qm (x k:Nat):(x/2^k &&& 1=1)↔x.testBit k=true:=by
 rw[Nat.and_one_is_mod,Nat.testBit_eq_decide_div_mod_eq,Xq]
end
end Go.Sx
