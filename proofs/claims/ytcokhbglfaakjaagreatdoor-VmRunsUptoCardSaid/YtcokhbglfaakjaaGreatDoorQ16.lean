import Derived.Test.YtcokhbglfaakjaaGreatDoorQ11
import Derived.Test.YtcokhbglfaakjaaGreatDoorQ13
import Derived.Test.YtcokhbglfaakjaaGreatDoorQ12
set_option linter.all false
set_option maxHeartbeats 0
namespace Go.Sx
open Go Go.Proofs Tryz
set_option maxRecDepth 100000
section
variable {fs:List FV}{i:Nat}{vs:List (ByteArray×ByteArray)}
section
variable {G:dJ}{P:Program}{t:Tm}{H:dD}{dst:Option Tmp}{ty:TypeId}{pos:String}{after:Array Edge}{g:Option (Nat×Bool)}
theorem Cb {T K E:TypeId}{x y v:Operand}{r:Nat}{u:Value}{d:List (ByteArray×Value)}{s:ByteArray}{C:Hp→dD}(hx:evo t x=some (.map (some r))) (hy:evo t y=some (.string s)) (hv:evo t v=some u) (hno:s ∉ d.map (·.1)) [hT:Und P T (.map K E)] [z:Und P K .string] [hf:Foc H Mv r d C]:
 St G P ⟨dst,.mapUpdate T x y v,ty,pos,after,g⟩ t H (λA J=>A=undef∧J=C (Mv r (d++ [(s,u)]))):=
 fun ρ hρ w hw=>by
  obtain⟨q,L,hL,hl⟩:=hw;obtain⟨L1,M,L2,rfl,⟨c,a,rfl,hk⟩,F⟩:=hf.foc _ hL;have n:w.heap[r]? =some (.map c.toArray a):=hl.at_ (r,.map c.toArray a) aq;have B:=MapKept.run_getObj_map (P:=P) n;have m:=MapKept.run_checkKey (P:=P) (w:=w) z.out (oM s);rcases pZ s d c 0 hk.keys hk.vals with⟨j,v',h1,_⟩|⟨h1,h2⟩
  ·exact absurd (Xt.2 ⟨_,Yj h1,rfl⟩) hno
  ·have h3:=MapKept.run_findKey (P:=P) (w:=w) z.out h2;have h:=MapKept.run_setObj_map (P:=P) (.map (c.toArray.push {key:=.string s,val:=u,born:=a}) (a+1)) n;have hr:(execOp ρ ⟨dst,.mapUpdate T x y v,ty,pos,after,g⟩).run P w=.ok .skip (fW w r (.map (c.toArray.push {key:=.string s,val:=u,born:=a}) (a+1))):=by
    simp only[execOp,hρ _ _ hx,hρ _ _ hy,hρ _ _ hv,Instr.mapUpdate,Sem.run_bind,ef (T:=T),Result.andThen_ok,B,m,h3,h,Sem.run_pure];all_goals rfl
   have f:MapKept.Stamped (c++ [({key:=.string s,val:=u,born:=a}:MapEntry)]).toArray (a+1):=by
    have:=MapKept.stamped_push (key:=.string s) (val:=u) hk.stamped (λe he=>by
     intro l;apply hno;have h5:e.key∈c.map (·.key):=Vj (by simpa using he);rw[hk.keys,l]at h5;obtain⟨p,hp,k⟩:=Xt.1 h5;cases k;exact Vj hp)
    simpa using this
   rw[hr];refine⟨C (Mv r (d++ [(s,u)])),⟨⟨q.os,q.tape,q.output⟩,_,F _ [(r,.map (c.toArray.push {key:=.string s,val:=u,born:=a}) (a+1))] ⟨c++ [{key:=.string s,val:=u,born:=a}],a+1,aq,⟨f,by simp[hk.keys],by simp[hk.vals]⟩⟩,?_⟩,rfl,rfl⟩;have:=lB.change (w':=fW w r (.map (c.toArray.push {key:=.string s,val:=u,born:=a}) (a+1))) (L1:=L1) (L2:=L2) (b:=r) (o:=.map c.toArray a) (o':=.map (c.toArray.push {key:=.string s,val:=u,born:=a}) (a+1)) bQ (iY n) (λi hi _=>gY hi)
   simpa using this
end
def vW (fs:List FV) (v:ByteArray×ByteArray):Nat:=match ig fs (dC v.1)with
 |none=>12
 |some i=>if 4096<v.2.size then 3 else match fs[i]? with
  |some p=>bif kL p.kind (dC v.2)then 0 else 13
  |none=>0
def lO (fs:List FV):List (ByteArray×ByteArray)→Nat
 | []=>0
 |v::l=>if vW fs v=0 then lO fs l else vW fs v
def jv (fs:List FV) (vs:List (ByteArray×ByteArray)):Nat:=if iK fs=false then 11 else if 64<vs.length then 3 else lO fs vs
theorem y7 {v:ByteArray×ByteArray}(h:vs[i]? =some v):lO fs (vs.drop i)=if vW fs v=0 then lO fs (vs.drop (i+1))else vW fs v:=by
 have hi:=(Yk.1 h).1;have e:vs[i]=v:=(Yk.1 h).2;rw[List.drop_eq_getElem_cons hi,lO,e]
theorem rM {w:List Nat}(h:ig fs w=some i):∃p,fs[i]? =some p∧dC p.name=w:=by
 rw[ig,List.findIdx?_eq_some_iff_getElem]at h;obtain⟨hi,h1,_⟩:=h;exact⟨fs[i],Yi hi,dt⟩
theorem zg {G:dJ}{H:dD}{s:SV} [hs:Sl H s eF fs] (hn:fs.length≤1000000000) (hf:∀f∈fs,f.name.size≤1000000000000):SC G prog 44 [.agg #[s.val]] H (λv a=>∃c:Int,v=.int .i64 c∧((iK fs=false∧c=11)∨(iK fs=true∧c=0))∧a=H):=
 (Kr hn hf).mono λv a h=>by
   obtain⟨h1,⟨h2,h3⟩|⟨h2,h3⟩⟩:=h
   ·exact⟨11,h3,.inl ⟨h2,rfl⟩,h1⟩
   ·exact⟨0,h3,.inr ⟨h2,rfl⟩,h1⟩
theorem WV {G:dJ}{H:dD}{s x:SV} [hf:Sl H s eF fs] [hv:Sl H x eVl vs] (hn:fs.length≤1000000) (u:∀f∈fs,f.name.size≤1000000000) (hvn:vs.length≤1000000000) (z:∀v∈vs,v.2.size≤1000000000):SC G prog 111 [.agg #[s.val],x.val] H (λv C=>v=iN (jv fs vs)∧C=H):=by
 refine sWk func111 ?_;refine gk (k:=bxx (k:=λB=>?_));refine go ?_;refine c1_ rfl (zg a8 (λf hf=>by have:=u f hf;omega)) ?_;rintro _ _ ⟨c,rfl,l,rfl⟩;refine gW (λh1=>?_) λh1=>?_
 ·obtain⟨hc,rfl⟩:iK fs=false∧c=11:=by
   rcases l with l|⟨_,h⟩
   ·exact l
   ·exact absurd h h1
  have hT:jv fs vs=11:=by rw[jv,if_pos hc]
  refine gR ?_;exact⟨_,hsb,by rw[hT];all_goals rfl,rfl⟩
 have hc:iK fs=true:=by
  rcases l with⟨_,h⟩|⟨h,_⟩
  ·have h2:=h1;rw[h]at h2;exact absurd h2 ae
  ·exact h
 have j:¬iK fs=false:=by rw[hc];decide
 refine gW (λh2=>?_) λh2=>?_
 ·have hT:jv fs vs=3:=by rw[jv,if_neg j,if_pos a8]
  refine gR ?_;exact⟨_,hsb,by rw[hT];all_goals rfl,rfl⟩
 have hT:jv fs vs=lO fs vs:=by rw[jv,if_neg j,if_neg a8]
 refine gk (k:=e8 Nat (λy=>y≤vs.length∧lO fs vs=lO fs (vs.drop y)) (λy=>[(23,iN y)]) [(2,_),(21,_),(22,_)] (λy=>[]) _ (λy=>vs.length-y) (0) (h0:=?_) (k:=?_))
 ·exact⟨Yl _,rfl⟩
 rintro i ⟨hi,hth⟩
 try dsimp only[Yd,Ye]at*
 refine gW (λh3=>?_) λh3=>?_
 ·obtain⟨v,e⟩:=gE vs i;have hvq:=z v (Yj e);have d:=dI v.2;rw[y7 e]at hth;have a:vW fs v=match ig fs (dC v.1)with
   |none=>12
   |some i=>if 4096<v.2.size then 3 else match fs[i]? with
    |some p=>bif kL p.kind (dC v.2)then 0 else 13
    |none=>0:=rfl
  refine gk (k:=alc (k:=λb7=>?_));refine go ?_;refine c2_ rfl (WX a8) ?_;rintro _ _ ⟨k,b,rfl,hkb,rfl⟩;refine go ?_;refine wi_ (k:=λh4=>?_) (m:=λh4=>?_)
  ·obtain⟨A,r⟩:b=false∧ig fs (dC v.1)=none:=by
    rcases hkb with⟨h1,_⟩|h1
    ·rw[h1]at h4;exact absurd h4 ae
    ·exact h1
   rw[r]at a;dsimp only at a;rw[a,if_neg ae]at hth;refine gR ?_;exact⟨_,hsb,bW,rfl⟩
  obtain⟨A,r⟩:b=true∧ig fs (dC v.1)=some k:=by
   rcases hkb with h1|⟨h1,_⟩
   ·exact h1
   ·rw[h1]at h4;exact absurd h4 ae
  obtain⟨p,hp,_⟩:=rM r;have hkl:=(Yk.1 hp).1;rw[r]at a;dsimp only at a;rw[hp]at a;dsimp only at a;refine gW (λh5=>?_) λh5=>?_
  ·rw[if_pos a8]at a;rw[a,if_neg ae]at hth;refine gR ?_;exact⟨_,hsb,bW,rfl⟩
  rw[if_neg a8]at a;refine go ?_;refine gk (k:=dV 11 59 (k:=λh6=>gk (k:=ep 5 58 (k:=λh7=>gk (k:=edq)) (q:=gk (k:=edq)))) (q:=gW (λh8=>?_) (λh8=>?_)))
  ·have hbad:kL p.kind (dC v.2)=false:=by
    obtain⟨w,c2⟩:=h8;rw[kL,if_pos w];rcases c2 with c2|c2
    ·simp[Uc (show(dC v.2).length=0 from a8)]
    ·rw[Yr (show ¬(dC v.2).length≤64 from a8)];simp
   rw[hbad]at a;rw[a]at hth;refine gR ?_;exact⟨_,hsb,bW,rfl⟩
  have h2:=h8;refine go ?_;refine c1_ rfl (Gm a8) ?_;rintro _ _ ⟨n,B,rfl,g,rfl⟩;refine gk (k:=dV 3 71 (k:=λh9=>gk (k:=edq)) (q:=go ?_));refine gW (λh10=>?_) λh10=>?_
  ·obtain⟨w,c2⟩:=h10;have hbad:kL p.kind (dC v.2)=false:=by
    rw[kL,if_neg a8,if_pos w];rcases g with⟨h1,_⟩|⟨_,h1⟩
    ·rw[h1]at c2;exact absurd c2 ae
    ·rw[h1];all_goals rfl
   rw[hbad]at a;rw[a]at hth;refine gR ?_;exact⟨_,hsb,bW,rfl⟩
  have h3:=h10;have t:kL p.kind (dC v.2)=true:=by
   rw[kL]
   by_cases k2:p.kind=2
   ·rw[if_pos k2];have h4:¬(v.2.size:Int)=0∧¬(64<(v.2.size:Int)):=by
     constructor
     ·intro h;apply absurd h2;simp[k2,h]
     ·intro h;apply absurd h2;simp[k2,h]
    rw[Yr (show ¬dC v.2= []from λh=>by rw[h]at d;simp at d;omega),Ys (show(dC v.2).length≤64 from a8)];all_goals rfl
   ·rw[if_neg k2]
    by_cases k3:p.kind=3
    ·rw[if_pos k3];rcases g with⟨_,h1,_⟩|⟨h1,_⟩
     ·rw[h1];all_goals rfl
     ·exact absurd h3 (by simp[k3,h1])
    ·rw[if_neg k3]
  rw[t,cond_true]at a;rw[a,if_pos rfl]at hth;refine go ?_;refine lN (i+1) ?_
  exact⟨a8,hth⟩
 obtain rfl:i=vs.length:=a8;rw[Vi]at hth;refine gR ?_;exact⟨_,hsb,bW,rfl⟩
end
section
variable {R R':Value→dD→Prop}{fs:List FV}{i:Nat}{p:FV}{s:ByteArray}
theorem th:∀(fs:List FV) (seen:List (List Nat)),uw seen fs=true→(∀f∈fs,dC f.name ∉ seen)∧(fs.map λf=>dC f.name).Nodup
 | [],seen,_=>⟨aq,aq⟩
 |f::r,seen,h=>by
  simp only[uw,Xu,Uf,Xy]at h;obtain⟨h1,h2,h3,h4⟩:=h;obtain⟨h5,h6⟩:=th r _ h4
  constructor
  ·intro g hg;rcases Xo.1 hg with rfl|hg
   ·exact h1
   ·exact λa=>h5 g hg (Yy _ a)
  ·rw[Xs,U1];refine⟨λa=>?_,h6⟩;obtain⟨g,hg,he⟩:=Xt.1 a;exact h5 g hg (Yx _ (by rw[he];exact List.mem_singleton_self _))
theorem CP (hc:iK fs=true){j:Nat}{a:FV}(hi:fs[i]? =some p) (hj:fs[j]? =some a) (hn:dC p.name=dC a.name):i=j:=by
 rw[iK,Xu]at hc;have h:=(th fs [] hc.2).2;have h1:=(Yk.1 hi).1;have h2:(fs.map λf=>dC f.name)[i]? =(fs.map λf=>dC f.name)[j]? :=by
  rw[Xd,Xd,hi,hj];simp[hn]
 exact(S1 dt h).1 h2
def kvF (fs:List FV):List (ByteArray×Value):=(List.range fs.length).map λi=>((fs.getD i ⟨⟨#[]⟩,0,false,false,false⟩).name,Value.int .i64 (i:Int))
theorem GM (fs:List FV):(kvF fs).length=fs.length:=by simp[kvF]
theorem wu (h:fs[i]? =some p):(kvF fs)[i]? =some (p.name,iN i):=by
 have hi:=(Yk.1 h).1;rw[kvF,Xd,Ur hi];simp[Xj,h]
theorem Lx (h:fs[i]? =some p):(kvF fs).take (i+1)=(kvF fs).take i++ [(p.name,iN i)]:=by
 rw[Um,wu h];all_goals rfl
theorem Pn (hc:iK fs=true) (h:fs[i]? =some p):p.name ∉((kvF fs).take i).map (·.1):=by
 intro hm;obtain⟨e,he,hn⟩:=Xt.1 hm;obtain⟨j,hj⟩:=Vh.1 he;rw[X3]at hj
 split at hj
 ·rename_i hji;have hi:=(Yk.1 h).1;have hp':fs[j]? =some fs[j]:=Yi a8;rw[wu hp']at hj;cases hj;have:=CP hc h hp' (by rw[←hn]);omega
 ·cases hj
theorem Pz (hc:iK fs=true){v:Value}(h:(kvF fs)[i]? =some (s,v)):ig fs (dC s)=some i∧v=iN i:=by
 have hi:i<fs.length:=by have:=(Yk.1 h).1;rwa [GM]at this
 have hp:fs[i]? =some fs[i]:=Yi hi;rw[wu hp]at h;cases h;exact⟨Ba hp rfl λj p' hj a he=>by have:=CP hc a hp he;omega,rfl⟩
theorem Mj (h:s ∉(kvF fs).map (·.1)):ig fs (dC s)=none:=
 vo λj p hj hp he=>h (Xt.2 ⟨_,Yj (wu hp),jy.1 he⟩)
theorem ou.mono {G:dJ}{P:Program}{r:Result Next}(h:ou G P R r) (hk:∀v a,R v a→R' v a):ou G P R' r:=by
 cases r with
 |ok n w'=>
  cases n <;> simp only[ou]at h⊢
  case value v=>obtain⟨a,h1,h2⟩:=h;exact⟨a,h1,hk _ _ h2⟩
  case skip=>obtain⟨a,h1,h2⟩:=h;exact⟨a,h1,hk _ _ h2⟩
  case enter f args=>
   refine h.mono λe w'' he=>?_;cases e with
   |returned v=>obtain⟨a,h1,h2⟩:=he;exact⟨a,h1,hk _ _ h2⟩
   |_=>exact he.elim
 |halt x w'=>simp only[ou]at h
theorem Gb {G:dJ}{P:Program}{o:Oper}{t:Tm}{H:dD}(h:St G P o t H R) (hk:∀v H',R v H'→R' v H'):St G P o t H R':=
 fun ρ hρ w hw=>ou.mono (h ρ hρ w hw) hk
section
variable {G:dJ}{P:Program}{t:Tm}{H:dD}{dst:Option Tmp}{ty:TypeId}{pos:String}{after:Array Edge}{g:Option (Nat×Bool)}
theorem K5 {T K E:TypeId}{x y:Operand}{r c d:Nat}{C:Hp→dD}(hc:iK fs=true) (hx:evo t x=some (.map (some r))) (hy:evo t y=some (.string s)) [hT:Und P T (.map K E)] [hK:Und P K .string] [hE:Inf P E c d (.int .i64 0)] [hf:Foc H Mv r (kvF fs) C]:
 St G P ⟨dst,.lookup T x y true,ty,pos,after,g⟩ t H (λu a=>∃(k:Nat) (b:Bool),u=.tuple #[iN k,.bool b]∧((b=true∧ig fs (dC s)=some k)∨(b=false∧ig fs (dC s)=none))∧a=H):=
 Gb (Gc (ok:=true) hx hy) λu a h=>by
  obtain⟨h1,⟨i,v,h2,h3⟩|⟨h2,h3⟩⟩:=h
  ·obtain⟨h4,h5⟩:=Pz hc h2;exact⟨i,true,by rw[h3,h5];all_goals rfl,.inl ⟨rfl,h4⟩,h1⟩
  ·exact⟨0,false,by rw[h3];all_goals rfl,.inr ⟨rfl,Mj h2⟩,h1⟩
end
def YF (G:dJ) (n:Nat):Value:=if n=0 then .nilIface else if n=11 then G.err 0 else if n=3 then G.err 4 else if n=12 then G.err 11 else G.err 12
theorem We {G:dJ}{H:dD}{s t:SV}{vs:List (ByteArray×ByteArray)} [hg:Glb G H] [hf:Sl H s eF fs] [hv:Sl H t eVl vs] (hn:fs.length≤1000000) (r:∀f∈fs,f.name.size≤1000000000) (hvn:vs.length≤1000000000) (u:∀v∈vs,v.2.size≤1000000000):SC G prog 113 [.agg #[s.val],t.val] H (λv z=>v=YF G (jv fs vs)∧z=H):=by
 refine sWk func113 ?_;refine gk (k:=bxx (k:=λb2=>?_));refine go ?_;refine c1_ rfl (AF a8 (λf hf=>by have:=r f hf;omega)) ?_;rintro v1 H1 ⟨rfl,x⟩;rcases x with⟨hc,rfl⟩|⟨hc,rfl⟩
 ·have hT:jv fs vs=11:=by rw[jv,if_pos hc]
  refine e_ asn (on_ (qn_ (ws_ (wr_ (e_ mv ?_)))));refine e_ (eg rfl) ?_;refine gk (k:=ift (k:=gR ?_));exact⟨_,hsb,by rw[hT];all_goals rfl,rfl⟩
 have e:¬iK fs=false:=by rw[hc];decide
 refine e_ asn (on_ (qn_ (ws_ (wr_ (e_ mv ?_)))));refine e_ (dL rfl) ?_;refine gk (k:=fM (k:=gW (λh1=>?_) (λh1=>?_)))
 ·have hT:jv fs vs=3:=by rw[jv,if_neg e,if_pos a8]
  refine gR ?_;exact⟨_,hsb,by rw[hT];all_goals rfl,rfl⟩
 have hT:jv fs vs=lO fs vs:=by rw[jv,if_neg e,if_neg a8]
 refine go ?_;refine s_ (HV rfl) ?_;rintro _ _ ⟨j,rfl,rfl⟩;refine gk (k:=e8 Nat (λy=>y≤fs.length) (λy=>[(29,iN y)]) [(1,_),(2,_),(6,_),(27,_),(28,_)] (λy=>[Mv j ((kvF fs).take y)]) _ (λy=>fs.length-y) (0) (h0:=?_) (k:=?_))
 ·exact Yl _
 rintro i hi
 try dsimp only[Yd,Ye]at*
 refine gW (λh2=>?_) λh2=>?_
 ·obtain⟨p,hp⟩:=gE fs i;have d:=Pn hc hp;have l:=Lx hp;refine gk (k:=alc (k:=λb8=>?_));refine go ?_;refine s_ (Cb rfl rfl rfl d) ?_;rintro _ _ ⟨rfl,rfl⟩;rw[←l];refine go ?_;refine lN (i+1) ?_
  try dsimp only
  omega
 obtain rfl:i=fs.length:=a8;have g:(kvF fs).take fs.length=kvF fs:=Xr (by rw[GM];exact Xl _);rw[g];refine go ?_;refine e8 Nat (λy=>y≤vs.length∧lO fs vs=lO fs (vs.drop y)) (λy=>[(41,iN y)]) [(2,_),(6,_),(39,_),(40,_)] (λy=>[]) _ (λy=>vs.length-y) (0) (h0:=?_) (k:=?_)
 ·exact⟨Yl _,rfl⟩
 rintro i ⟨hi,hth⟩
 try dsimp only[Yd,Ye]at*
 refine gW (λh3=>?_) λh3=>?_
 ·obtain⟨v,c⟩:=gE vs i;have hvq:=u v (Yj c);have hvl:=dI v.2;rw[y7 c]at hth;have a:vW fs v=match ig fs (dC v.1)with
   |none=>12
   |some i=>if 4096<v.2.size then 3 else match fs[i]? with
    |some p=>bif kL p.kind (dC v.2)then 0 else 13
    |none=>0:=rfl
  refine gk (k:=alc (k:=λb10=>?_));refine go ?_;refine s_ (K5 hc rfl rfl) ?_;rintro _ _ ⟨k,b,rfl,hkb,rfl⟩;refine go ?_;refine wi_ (k:=λh4=>?_) (m:=λh4=>?_)
  ·obtain⟨w,h⟩:b=false∧ig fs (dC v.1)=none:=by
    rcases hkb with⟨h1,_⟩|h1
    ·rw[h1]at h4;exact absurd h4 ae
    ·exact h1
   rw[h]at a;dsimp only at a;rw[a,if_neg ae]at hth;refine gR ?_;exact⟨_,hsb,bW,rfl⟩
  obtain⟨w,h⟩:b=true∧ig fs (dC v.1)=some k:=by
   rcases hkb with h1|⟨h1,_⟩
   ·exact h1
   ·rw[h1]at h4;exact absurd h4 ae
  obtain⟨p,hp,_⟩:=rM h;have hkl:=(Yk.1 hp).1;rw[h]at a;dsimp only at a;rw[hp]at a;dsimp only at a;refine gW (λh5=>?_) λh5=>?_
  ·rw[if_pos a8]at a;rw[a,if_neg ae]at hth;refine gR ?_;exact⟨_,hsb,bW,rfl⟩
  rw[if_neg a8]at a;refine go ?_;refine dX dN (as_ 0 (q:=fla) (k:=as_ 1 (q:=ldv) (k:=as_ 2 (q:=mv) (k:=as_ 3 (q:=ixa) (k:=as_ 4 (q:=fle) (k:=as_ 5 (q:=lfl) (k:=as_ 6 (q:=fla) (k:=as_ 7 (q:=ldv) (k:=?_)))))))));refine dS 8 rfl rfl aa rfl (iR (vs:= [_,_]) rfl (RA a8)) ?_;refine gW (λh6=>?_) λh6=>?_
  ·have hbad:kL p.kind (dC v.2)=false:=h6;rw[hbad]at a;rw[a]at hth;refine gR ?_;exact⟨_,hsb,bW,rfl⟩
  have n:kL p.kind (dC v.2)=true:=h6;rw[n,cond_true]at a;rw[a,if_pos rfl]at hth;refine go ?_;refine lN (i+1) ?_
  exact⟨a8,hth⟩
 obtain rfl:i=vs.length:=a8;rw[Vi]at hth;refine gR ?_;exact⟨_,hsb,bW,rfl⟩
end
section
variable {G:dJ}{H R:dD}{P:Program}{d i p r:Nat}{q s:ByteArray}{s':SV}{t:Tm}{ts:List Tri}
structure PG where
 d:Nat
 s:SV
 pos:List Nat
structure EG where
 key:ByteArray
 s:SV
 l:List PG
def pgV (p:PG):Nat×SV:=(p.d,p.s)
def pgP (p:PG):Po:=(p.d,p.pos)
def pgH (p:PG):dD:= [Row p.s eI (dT p.pos)]
def egH (e:EG):dD:= [Row e.s ePo (e.l.map pgV),Cl pgH e.l]
def kvs (es:List EG):List (ByteArray×Value):=es.map λe=>(e.key,e.s.val)
def pe (es:List EG):List (List Nat×List Po):=es.map λe=>(dC e.key,e.l.map pgP)
def kl (r:Nat) (ts:List Tri):Hp:=λL=>∃es,iE (pe es) ts∧Sep [Cl egH es,Mv r (kvs es)] L
theorem tu {es:List EG}(h:iE (pe es) ts):dH (Cl egH es::Mv r (kvs es)::R) (kl r ts::R):=λL hL=>by
 obtain⟨L1,L2,rfl,h1,L3,a,rfl,h2,h3⟩:=hL;exact⟨(L1++L3)++a, [],⟨L1++L3,a,rfl,⟨es,h,L1,L3,rfl,h1,L3, [],aq,h2,rfl⟩,h3⟩,aq⟩
theorem I2 (hr:Rem H kl r ts R){w:World}(c:Sat G w H):∃a,iE (pe a) ts∧Sat G w (Cl egH a::Mv r (kvs a)::R):=by
 obtain⟨d,L,⟨L1,L2,rfl,⟨a,h,L3,L4,rfl,h1,b,e,rfl,h2,h3⟩,h4⟩,hl⟩:=hr.sat c;obtain rfl:e= []:=h3;exact⟨a,h,d,_,⟨L3,b++L2,aq,h1,b,L2,rfl,h2,h4⟩,hl⟩
theorem Gz {N:Nat}{Q:Post}{ops:Array Oper}{l:List Oper}(hr:Rem H kl r ts R) (h:∀b,iE (pe b) ts→O G P N ops l Q t (Cl egH b::Mv r (kvs b)::R)):O G P N ops l Q t H:=
 ⟨λa w ha d=>by
   obtain⟨b,hk,c⟩:=I2 hr d;exact(h b hk).go a w ha c⟩
theorem AW {es:List EG}{e:EG}(h:es[i]? =some e):(kvs es)[i]? =some (e.key,e.s.val):=by rw[kvs,Xd,h];all_goals rfl
theorem GL (es:List EG) (i:Nat) (e:EG):kvs (es.set i e)=(kvs es).set i (e.key,e.s.val):=by rw[kvs,kvs,R9]
theorem Kc {α:Type}{l:List α}{a:α}(h:l[i]? =some a):l.set i a=l:=by
 apply Vz;intro j;rw[Vf]
 split
 ·rename_i hj;subst hj;rw[h];simp[(Yk.1 h).1]
 ·rfl
theorem Lw {es:List EG}{e a:EG}(h:es[i]? =some e) (hk:a.key=e.key) (hs:a.s=e.s):kvs (es.set i a)=kvs es:=by
 rw[GL,hk,hs];exact Kc (AW h)
theorem uC {es:List EG}{e:EG}(h:es[i]? =some e):(pe es)[i]? =some (dC e.key,e.l.map pgP):=by rw[pe,Xd,h];all_goals rfl
theorem DV (es:List EG) (i:Nat) (e:EG):pe (es.set i e)=(pe es).set i (dC e.key,e.l.map pgP):=by rw[pe,pe,R9]
theorem rV (es:List EG):(pe es).map (·.1)=(kvs es).map λp=>dC p.1:=by simp[pe,kvs]
theorem vf {es:List EG}(h:iE (pe es) ts):((kvs es).map (·.1)).Nodup:=by
 have h1:=h.nodup;rw[rV,show(λp:ByteArray×Value=>dC p.1)=dC∘(·.1)from rfl,←Uo]at h1;exact CM h1
theorem Pm {es:List EG}:q∈(kvs es).map (·.1)↔dC q∈(pe es).map (·.1):=by
 rw[rV,Xt,Xt]
 constructor
 ·rintro⟨p,hp,rfl⟩;exact⟨p,hp,rfl⟩
 ·rintro⟨p,hp,he⟩;exact⟨p,hp,jy.1 he⟩
theorem Cc {dst:Option Tmp}{ty:TypeId}{pos:String}{after:Array Edge}{g:Option (Nat×Bool)}{T K E:TypeId}{x y:Operand}{d f:Nat}{es:List EG}{C:Hp→dD}(hx:evo t x=some (.map (some r))) (hy:evo t y=some (.string s)) [hT:Und P T (.map K E)] [hK:Und P K .string] [hE:Inf P E d f (.slice none 0 0)] [hf:Foc H Mv r (kvs es) C]:
 St G P ⟨dst,.lookup T x y false,ty,pos,after,g⟩ t H (λu c=>c=H∧((∃(i:Nat) (e:EG),es[i]? =some e∧e.key=s∧u=e.s.val)∨(s ∉(kvs es).map (·.1)∧u=SV.nil.val))):=
 Gb (Gc (ok:=false) hx hy) λv c ⟨h1,h2⟩=>⟨h1,by
  rcases h2 with⟨i,u,hi,a⟩|⟨hno,a⟩
  ·obtain rfl:v=u:=a;obtain⟨e,he,b⟩:∃e,es[i]? =some e∧(e.key,e.s.val)=(s,v):=by
    rw[kvs,Xd]at hi;cases he:es[i]? with
    |none=>rw[he]at hi;cases hi
    |some e=>rw[he]at hi;exact⟨e,rfl,Xk hi⟩
   cases b;exact .inl ⟨i,e,he,rfl,rfl⟩
  ·exact .inr ⟨hno,a⟩⟩
theorem FG {l:List PG}{n:Nat}{p:PG}{x:Nat}(s:SV) (h:l[n]? =some p) (hn:n+1=l.length):fI (l.map pgP) p.d x=(l.set n ⟨p.d,s,p.pos++ [x]⟩).map pgP:=by
 obtain⟨a,rfl⟩:∃a,l=a++ [p]:=by
  rcases X4 l with rfl|⟨a,q,b⟩
  ·cases h
  ·obtain rfl:l=a++ [q]:=by simpa using b
   have:n=a.length:=by simp at hn;omega
   subst this;simp at h;subst h;exact⟨a,rfl⟩
 have:n=a.length:=by simp at hn;omega
 subst this;simp[fI,pgP]
theorem Af {l:List Po}{x:Nat}(h:∀q,l.getLast? =some q→q.1≠d):fI l d x=l++ [(d, [x])]:=by
 unfold fI
 split
 ·rename_i q a;rw[if_neg (h q a)]
 ·rename_i hn;rw[List.getLast?_eq_none_iff]at hn;subst hn;rfl
theorem rK (ts:List (Nat×Nat)):ec (jI ts)=ts.length∧(jI ts).length≤ts.length:=by
 have b:∀(r:List (Nat×Nat)),ec (jI r.reverse)=r.length∧(jI r.reverse).length≤r.length:=by
  intro r
  induction r with
  |nil=>simp[jI,ec]
  |cons t r ih=>
   obtain⟨h1,h2⟩:=ih;rw[List.reverse_cons,show [t]= [(t.1,t.2)]from rfl,mT];generalize jI r.reverse=l at*;rcases X4 l with rfl|⟨a,q,c⟩
   ·have h3:r.length=0:=by simpa [ec] using h1.symm
    simp[fI,ec,h3]
   ·obtain rfl:l=a++ [q]:=by simpa using c
    by_cases he:q.1=t.1
    ·rw[show fI (a++ [q]) t.1 t.2=a++ [(t.1,q.2++ [t.2])]from by simp[fI,he]];simp[ec]at*;omega
    ·rw[show fI (a++ [q]) t.1 t.2=a++ [q]++ [(t.1, [t.2])]from by simp[fI,he]];simp[ec]at*;omega
 have:=b ts.reverse;rw[S0,List.length_reverse]at this;exact this
theorem AN (ts:List Tri) (k:List Nat):(ofK ts k).length≤ts.length:=by rw[ofK,Yh];exact List.length_filter_le _ _
theorem HN {es:List EG}(h:iE (pe es) ts){e:EG}(he:es[i]? =some e):e.l.length≤ts.length∧∀p∈e.l,p.pos.length≤ts.length:=by
 have h1:=h.vals _ (Yj (uC he));simp only at h1;obtain⟨h2,h3⟩:=rK (ofK ts (dC e.key));have h4:=AN ts (dC e.key);rw[←h1]at h2 h3;rw[Yh]at h3;refine⟨a8,λp hp=>?_⟩;have:p.pos.length≤ec (e.l.map pgP):=by
  generalize e.l=l at hp
  induction l with
  |nil=>simp at hp
  |cons q l ih=>
   simp only[ec,Xs,Vv]at ih⊢;rcases Xo.1 hp with rfl|hp
   ·show p.pos.length≤p.pos.length+_;omega
   ·have:=ih hp;omega
 omega
def tZ (f:Nat) (s:ByteArray):ByteArray:=eG [f%256]++s
theorem rR (f:Nat) (s:ByteArray):dC (tZ f s)=f%256::dC s:=by
 rw[tZ,fG,fD aQ];all_goals rfl
theorem Wc {f:Nat}(hs:s.size≤1000000000):SC G prog 88 [iN f,.string s] H (λv a=>v=.string (tZ f s)∧a=H):=by
 refine sWk func88 ?_;refine ws_ (wr_ (e_ asn (on_ (qn_ (ws_ (wr_ (e_ mv ?_)))))));refine e_ (ez 256 rfl rfl rfl f rfl) ?_;refine fS eB (k:=λs7=>?_);refine e_ (fx rfl) ?_;refine e_ mv ?_;refine e_ (jn rfl rfl (by rw[j9];simp;omega)) ?_;exact gZ
theorem Bj {es:List EG}{e:EG}(h:es[i]? =some e):dH (Cl egH es::H) (Row e.s ePo (e.l.map pgV)::Cl pgH e.l::Cl egH (es.take i)::Cl egH (es.drop (i+1))::H):=lY (f:=egH) h
theorem rD {l:List PG}{p:PG}(h:l[i]? =some p):dH (Cl pgH l::H) (Row p.s eI (dT p.pos)::Cl pgH (l.take i)::Cl pgH (l.drop (i+1))::H):=lY (f:=pgH) h
theorem Dm {es:List EG}(e:EG) (hi:i<es.length):dH (Row e.s ePo (e.l.map pgV)::Cl pgH e.l::Cl egH (es.take i)::Cl egH (es.drop (i+1))::H) (Cl egH (es.set i e)::H):=ur (f:=egH) e hi
theorem KP {l:List PG}(p:PG) (hi:i<l.length):dH (Row p.s eI (dT p.pos)::Cl pgH (l.take i)::Cl pgH (l.drop (i+1))::H) (Cl pgH (l.set i p)::H):=ur (f:=pgH) p hi
theorem wj {l:List PG}(p:PG):dH (Row p.s eI (dT p.pos)::Cl pgH l::H) (Cl pgH (l++ [p])::H):=o4 (f:=pgH) p
theorem PW {l:List EG}(e:EG):dH (Row e.s ePo (e.l.map pgV)::Cl pgH e.l::Cl egH l::H) (Cl egH (l++ [e])::H):=o4 (f:=egH) e
theorem KI {n:Nat}{es:List EG}{e:EG}{lp:PG}(a:iE (pe es) ts) (he:es[i]? =some e) (hp:e.l[n]? =some lp) (hn:n+1=e.l.length) (hd:lp.d=d):
 dH (Row e.s ePo ((e.l.map pgV).set n (lp.d,s'))::Row s' eI (dT (lp.pos++ [p]))::Cl pgH (e.l.take n)::Cl pgH (e.l.drop (n+1))::Cl egH (es.take i)::Cl egH (es.drop (i+1))::Mv r (kvs es)::R) (kl r (ts++ [(dC e.key,d,p)])::R):=by
 subst hd;have h1:(e.l.map pgV).set n (lp.d,s')=(e.l.set n ⟨lp.d,s',lp.pos++ [p]⟩).map pgV:=by rw[R9];all_goals rfl
 have h2:kvs (es.set i ⟨e.key,e.s,e.l.set n ⟨lp.d,s',lp.pos++ [p]⟩⟩)=kvs es:=Lw he rfl rfl;rw[h1,←h2];refine(dH.keep (KP ⟨lp.d,s',lp.pos++ [p]⟩ (Yk.1 hp).1)).trans ((Dm ⟨e.key,e.s,e.l.set n ⟨lp.d,s',lp.pos++ [p]⟩⟩ (Yk.1 he).1).trans (tu ?_));rw[DV];have:=a.old (d:=lp.d) (p:=p) (uC he)
 rwa [FG s' hp hn]at this
theorem Cz {es:List EG}{e:EG}{u:SV}(b:iE (pe es) ts) (he:es[i]? =some e) (hd:∀q,e.l.getLast? =some q→q.d≠d):
 dH (Row s' ePo (e.l.map pgV++ [(d,u)])::Row u eI (dT [p])::Cl pgH e.l::Cl egH (es.take i)::Cl egH (es.drop (i+1))::Mv r ((kvs es).set i (e.key,s'.val))::R) (kl r (ts++ [(dC e.key,d,p)])::R):=by
 have h1:e.l.map pgV++ [(d,u)]=(e.l++ [(⟨d,u, [p]⟩:PG)]).map pgV:=by simp[pgV]
 have h2:kvs (es.set i ⟨e.key,s',e.l++ [⟨d,u, [p]⟩]⟩)=(kvs es).set i (e.key,s'.val):=GL _ _ _;rw[h1,←h2];refine(dH.keep (wj ⟨d,u, [p]⟩)).trans ((Dm ⟨e.key,s',e.l++ [⟨d,u, [p]⟩]⟩ (Yk.1 he).1).trans (tu ?_));rw[DV];have:=b.old (d:=d) (p:=p) (uC he);rw[Af (λq a=>by
  rw[List.getLast?_map]at a;cases hl:e.l.getLast? with
  |none=>rw[hl]at a;cases a
  |some x=>rw[hl]at a;obtain rfl:=Xk a;exact hd x hl)]at this
 simpa [pgP] using this
theorem Ib {es:List EG}{u:SV}(a:iE (pe es) ts) (hno:q ∉(kvs es).map (·.1)):
 dH (Row s' ePo [(d,u)]::Row u eI (dT [p])::Cl egH es::Mv r (kvs es++ [(q,s'.val)])::R) (kl r (ts++ [(dC q,d,p)])::R):=by
 have h2:kvs (es++ [⟨q,s', [⟨d,u, [p]⟩]⟩])=kvs es++ [(q,s'.val)]:=by simp[kvs]
 rw[←h2];refine(dH.keep ((ga dH.refl).trans (dH.trans (H':=Row u eI (dT [p])::Cl pgH []::Cl egH es::Mv r (kvs (es++ [⟨q,s', [⟨d,u, [p]⟩]⟩]))::R) hsb (wj ⟨d,u, [p]⟩)))).trans ((PW ⟨q,s', [⟨d,u, [p]⟩]⟩).trans (tu ?_));have:=a.new (d:=d) (p:=p) (λh=>hno (Pm.2 h))
 simpa [pe,pgP] using this
theorem Z8 {g:Nat}{w t s:Value} [hv:dQ R g [w,t,s,.map (some r)]] [hr:Rem H kl r ts R] (hn:ts.length≤1000000000):SC G prog 160 [pA g,.string q,iN d,iN p] H (λv B=>v=.tuple #[]∧B=kl r (ts++ [(dC q,d,p)])::R):=by
 refine sWk func160 ?_;refine go ?_;refine Gz hr λes c=>?_;refine go ?_;refine s_ (Cc rfl rfl) ?_;rintro _ _ ⟨rfl,(⟨i,e,he,rfl,rfl⟩|⟨hno,rfl⟩)⟩
 ·obtain⟨hel,hpl⟩:=HN c he;have h:(e.l.map pgV).length=e.l.length:=Yh ..;refine eu (Bj he) ?_;refine e_ asn (on_ (qn_ (ws_ (ws_ (wr_ (e_ mv (e_ lnn (e_ asn (on_ (qn_ (ws_ (wr_ (e_ mv ?_)))))))))))));refine e_ igt (sp_ mv (k:=λh1=>?_) (m:=λh1=>?_))
  ·obtain⟨lp,l⟩:=gE e.l (e.l.length-1);have A:(e.l.map pgV)[(e.l.map pgV).length-1]? =some (lp.d,lp.s):=by rw[Xd,h,l];all_goals rfl
   have hlpl:=hpl lp (Yj l);have f:∀q,e.l.getLast? =some q→q=lp:=λq x=>by rw[List.getLast?_eq_getElem?,l]at x;exact(Xk x).symm
   have hil:=eJ lp.pos;refine gW (λh2=>?_) λh2=>?_
   ·refine go ?_;refine eu (dH.keep (rD l)) ?_;refine gk (k:=fS eI (k:=λs40=>?_));refine app (k:=λz=>?_);rw[show dT lp.pos++ [(p:Int)]=dT (lp.pos++ [p])from by simp[dT]];refine go ?_;rw[h];refine s_ (nT (i:=e.l.length-1) (o:=1) rfl rfl rfl (lp.d,lp.s) (h ▸ A) ae (a:=(lp.d,z)) rfl) ?_;rintro _ _ ⟨rfl,rfl⟩;refine gR ?_;exact⟨_,dH.trans hsb (KI (d:=d) c he l a8 a8),rfl,rfl⟩
   have n:∀q,e.l.getLast? =some q→q.d≠d:=λq x=>by rw[f q x];omega
   refine go ?_;refine wD [8,10,11,12] (λk H=>(k=2→dQ H g [w,t,s,.map (some r)])∧(k=3→dQ H g [w,t,s,.map (some r)])) (aF 0 (k:=aF 1 (k:=?_)));refine aN 2 rfl (λH hH=>bM) ?_;refine aN 3 rfl (λH hH=>aM) (go ?_);refine aS 8 rfl (fK eI rfl rfl) ?_;rintro _ _ ⟨b,rfl,rfl⟩;rw[show Row b eI [(p:Int)]=Row b eI (dT [p])from rfl];refine af_ 9 (q:=ea λH hH=>bld [(0,_),(1,_)]) (k:=?_);refine aS 10 rfl (fK ePo rfl rfl) ?_;rintro _ _ ⟨y,rfl,rfl⟩;refine aS 11 rfl (gf rfl rfl rfl rfl ab ab) ?_;rintro _ _ ⟨j,rfl,rfl⟩;refine aS 12 rfl (Ca rfl rfl rfl (AW he) (vf c)) ?_;rintro _ _ ⟨rfl,rfl⟩;refine aZ (rT (k:=?_));exact⟨_,dH.trans hsb (Cz (s':=j) (u:=b) c he n),rfl,rfl⟩
  have f:∀q,e.l.getLast? =some q→q.d≠d:=λq x=>by
   have:=Q0 x;have:=List.length_pos_of_mem this;omega
  refine gk (k:=fM (k:=go ?_));refine wD [8,10,11,12] (λk H=>(k=2→dQ H g [w,t,s,.map (some r)])∧(k=3→dQ H g [w,t,s,.map (some r)])) (aF 0 (k:=aF 1 (k:=?_)));refine aN 2 rfl (λH hH=>bM) ?_;refine aN 3 rfl (λH hH=>aM) (go ?_);refine aS 8 rfl (fK eI rfl rfl) ?_;rintro _ _ ⟨b,rfl,rfl⟩;rw[show Row b eI [(p:Int)]=Row b eI (dT [p])from rfl];refine af_ 9 (q:=ea λH hH=>bld [(0,_),(1,_)]) (k:=?_);refine aS 10 rfl (fK ePo rfl rfl) ?_;rintro _ _ ⟨y,rfl,rfl⟩;refine aS 11 rfl (gf rfl rfl rfl rfl ab ab) ?_;rintro _ _ ⟨j,rfl,rfl⟩;refine aS 12 rfl (Ca rfl rfl rfl (AW he) (vf c)) ?_;rintro _ _ ⟨rfl,rfl⟩;refine aZ (rT (k:=?_));exact⟨_,dH.trans hsb (Cz (s':=j) (u:=b) c he f),rfl,rfl⟩
 refine eu (dH.nilRow (e:=ePo) dH.refl) ?_;have h:([]:List (Nat×SV)).length=0:=rfl;refine e_ asn (on_ (qn_ (ws_ (ws_ (wr_ (e_ mv (e_ lnn (e_ asn (on_ (qn_ (ws_ (wr_ (e_ mv ?_)))))))))))));refine e_ igt (sp_ mv (k:=λh3=>?_) (m:=λh3=>?_))
 ·exact absurd h3 a8
 refine gk (k:=fM (k:=go ?_));refine wD [8,10,11,12] (λk H=>(k=2→dQ H g [w,t,s,.map (some r)])∧(k=3→dQ H g [w,t,s,.map (some r)])) (aF 0 (k:=aF 1 (k:=?_)));refine aN 2 rfl (λH hH=>bM) ?_;refine aN 3 rfl (λH hH=>aM) (go ?_);refine aS 8 rfl (fK eI rfl rfl) ?_;rintro _ _ ⟨b,rfl,rfl⟩;rw[show Row b eI [(p:Int)]=Row b eI (dT [p])from rfl];refine af_ 9 (q:=ea λH hH=>bld [(0,_),(1,_)]) (k:=?_);refine aS 10 rfl (fK ePo rfl rfl) ?_;rintro _ _ ⟨y,rfl,rfl⟩;refine aS 11 rfl (gf rfl rfl rfl rfl ab ab) ?_;rintro _ _ ⟨j,rfl,rfl⟩;refine aS 12 rfl (Cb rfl rfl rfl hno) ?_;rintro _ _ ⟨rfl,rfl⟩;refine aZ (rT (k:=?_));exact⟨_,dH.trans hsb (Ib (s':=j) (u:=b) c hno),rfl,rfl⟩
end
section
variable {H:dD}{fs:List FV}{i:Nat}{l:List (SV×List Nat)}{t:Tok}
abbrev Val:=ByteArray×ByteArray
abbrev Doc:=Int×List Val
def eD:Enc (Int×SV):=⟨λp=>[.int .i64 p.1,p.2.val],2,true,λ_=>rfl,λp v h=>by simp at h;rcases h with rfl|rfl <;> rfl,ae,λh=>aK,ae⟩
instance {p:Int×SV}:kV eD p (.agg [.int .i64 p.1,p.2.val].toArray):=⟨rfl⟩
instance {d:Int}{s:SV}:gP eD (.agg [.int .i64 d,s.val].toArray) (d,s):=⟨rfl⟩
def gK (H:dD) (l:List (Int×SV)) (ds:List Doc):Prop:=l.length=ds.length∧∀(i:Nat) (p:Int×SV) (q:Doc),l[i]? =some p→ds[i]? =some q→p.1=q.1∧Sl H p.2 eVl q.2
theorem gK.get {l:List (Int×SV)}{ds:List Doc}(h:gK H l ds) (hi:i<l.length):∃d s a,l[i]? =some (d,s)∧ds[i]? =some (d,a)∧Sl H s eVl a:=by
 obtain⟨p,hp⟩:∃p,l[i]? =some p:=⟨_,Yi hi⟩;obtain⟨q,b⟩:∃q,ds[i]? =some q:=⟨_,Yi (by rw[←h.1];exact hi)⟩;obtain⟨h1,h2⟩:=h.2 i p q hp b;exact⟨p.1,p.2,q.2,hp,by rw[b,h1],h2⟩
theorem gK.tail {A:Hp}{l:List (Int×SV)}{ds:List Doc}(h:gK H l ds):gK (A::H) l ds:=⟨h.1,λi p q hp a=>by
 obtain⟨h1,h2⟩:=h.2 i p q hp a;exact⟨h1,Sl.tail⟩⟩
def dsz (ds:List Doc):Nat:=(ds.map λd=>vsz d.2).sum
theorem Fx (ds:List Doc) (i:Nat):dsz (ds.take i)≤dsz ds:=by
 rw[dsz,dsz,List.map_take];exact qH _ _
theorem rP {ds:List Doc}{d:Doc}(h:d∈ds):vsz d.2≤dsz ds:=by
 induction ds with
 |nil=>simp at h
 |cons e ds ih=>
  simp only[dsz,Xs,Vv]at ih⊢;rcases Xo.1 h with rfl|h
  ·omega
  ·have:=ih h;omega
theorem oU (fs:List FV) (k:Nat) (vs:List Val):(eZ fs k vs).length≤vsz vs:=by
 unfold eZ
 split
 ·rename_i p hp;have:=B7 p vs vs.length _ _ rfl;rw[Xn]at this;exact this.2
 ·simp
def od (fs:List FV) (f k:Nat) (vs:List Val):List Tri:=(eZ fs f vs).map λt=>(dC (tZ f (eG t.text)),k,t.pos)
def gN (fs:List FV) (f:Nat):Nat→List Doc→List Tri
 |_, []=>[]
 |k,d::r=>od fs f k d.2++gN fs f (k+1) r
theorem yo (fs:List FV) (f:Nat):∀(l:List Doc) (k:Nat) (d:Doc),gN fs f k (l++ [d])=gN fs f k l++od fs f (k+l.length) d.2
 | [],k,d=>by simp[gN]
 |e::l,k,d=>by
  rw[Yd,gN,yo fs f l (k+1) d,gN,Yf,Yb,show k+1+l.length=k+(l.length+1)from a8]
theorem Fy {f:Nat}{ds:List Doc}{d:Doc}(h:ds[i]? =some d):gN fs f 0 (ds.take (i+1))=gN fs f 0 (ds.take i)++od fs f i d.2:=by
 have hi:=(Yk.1 h).1;rw[dK h,yo,Yg,Ug a8,Vw]
theorem vx (fs:List FV) (f:Nat):∀(l:List Doc) (k:Nat),(gN fs f k l).length≤dsz l
 | [],_=>by simp[gN]
 |d::l,k=>by
  have h1:=vx fs f l (k+1);have h2:=oU fs f d.2;simp only[gN,dsz,od,Ya,Yh,Xs,Vv]at*;omega
def fU (fs:List FV) (ds:List Doc):List Tri:=(List.range fs.length).flatMap λf=>gN fs f 0 ds
def pL (fs:List FV) (ds:List Doc) (f:Nat):List Tri:=(List.range f).flatMap λf=>gN fs f 0 ds
theorem uU (fs:List FV) (ds:List Doc) (f:Nat):pL fs ds (f+1)=pL fs ds f++gN fs f 0 ds:=by simp[pL,X9]
theorem CC (fs:List FV) (ds:List Doc):∀f,(pL fs ds f).length≤f*dsz ds
 | 0=>by simp[pL]
 |f+1=>by
  have h1:=CC fs ds f;have h2:=vx fs f ds 0;rw[uU,Ya,Vy,Nat.one_mul];omega
def eL (fs:List FV) (ds:List Doc) (f:Nat):List Nat:=ds.map λd=>(eZ fs f d.2).length
theorem Ec {p:FV}{w:List Nat}(h:t∈fF p w):t.text.length≤64:=by
 rw[fF]at h
 split at h
 ·obtain⟨t0,h0,hk⟩:=List.mem_filterMap.1 h;rw[me]at hk
  split at hk
  ·split at hk
   ·obtain rfl:=Xk hk;assumption
   ·cases hk
  ·cases hk
 ·split at h
  ·split at h
   ·simp at h;subst h;assumption
   ·simp at h
  ·split at h
   ·split at h
    ·simp at h;subst h;rw[oH];decide
    ·simp at h
   ·simp at h
theorem rL (p:FV) (vs:List Val):∀i,∀t∈(gM p vs i).2,t.text.length≤64
 | 0,t,h=>by simp[gM]at h
 |i+1,t,h=>by
  rw[gM]at h
  split at h
  ·exact rL p vs i t h
  ·split at h
   ·rcases Xm.1 h with h|h
    ·exact rL p vs i t h
    ·obtain⟨a,h0,rfl⟩:=Xt.1 h;exact Ec (t:=a) h0
   ·exact rL p vs i t h
theorem vY {k:Nat}{vs:List Val}(h:t∈eZ fs k vs):t.text.length≤64:=by
 unfold eZ at h
 split at h
 ·exact rL _ _ _ t h
 ·simp at h
def lnH (z:SV×List Nat):dD:= [Row z.1 eI (dT z.2)]
theorem GI {z:SV×List Nat}(h:l[i]? =some z):dH (Cl lnH l::H) (Row z.1 eI (dT z.2)::Cl lnH (l.take i)::Cl lnH (l.drop (i+1))::H):=lY (f:=lnH) h
theorem Lq (z:SV×List Nat) (hi:i<l.length):dH (Row z.1 eI (dT z.2)::Cl lnH (l.take i)::Cl lnH (l.drop (i+1))::H) (Cl lnH (l.set i z)::H):=ur (f:=lnH) z hi
theorem AS (z:SV×List Nat):dH (Row z.1 eI (dT z.2)::Cl lnH l::H) (Cl lnH (l++ [z])::H):=o4 (f:=lnH) z
theorem Lp:∀n,dH H (Cl lnH (List.replicate n (SV.nil, []))::H)
 | 0=>ga dH.refl
 |n+1=>by
  rw[List.replicate_succ'];exact((Lp n).trans (dH.nilRow (e:=eI) dH.refl)).trans (AS (SV.nil, []))
theorem HM {r:Nat}{R:dD}:dH (Mv r []::R) (kl r []::R):=(ga dH.refl).trans (tu (es:= []) iE.nil)
theorem Lr {zs:List (SV×List Nat)}{A:List (List Nat)}{n:Nat}(s:SV) (x:List Nat) (h:zs.map (·.2)=A++List.replicate (n+1) []):(zs.set A.length (s,x)).map (·.2)=A++ [x]++List.replicate n []:=by
 rw[R9,h,V6,Ux _ _ (Xl _),Ui];simp
theorem G5 {G:dJ}{fv dv:SV}{l:List (Int×SV)}{ds:List Doc} [hf:Sl H fv eF fs] [hd:Sl H dv eD l] [Spc H] (Z:kh G) (L:gK H l ds) (hfl:fs.length≤16) (hn:ds.length≤100000) (Y:∀d∈ds,d.2.length≤100000000∧∀v∈d.2,v.2.size≤3000000) (V:dsz ds≤30000000):
 SC G prog 114 [.agg #[fv.val],dv.val] H (λv H'=>∃(g:Nat) (b:SV) (r:Nat) (zs:List (SV×List Nat)),v=pA g∧zs.map (·.2)=(List.range fs.length).map (eL fs ds)∧H'=Vr g [fv.val,dv.val,b.val,.map (some r)]::Row b eSV (zs.map (·.1))::Cl lnH zs::kl r (fU fs ds)::H):=by
 have K:=L.1;refine sWk func114 ?_;refine gk (k:=bxx (k:=λM=>?_));refine e_ asn (on_ (qn_ (ru (Nat×SV×Nat) (λy=>True) (λy=>[(5,pA y.1)]) [5,12,13,14,15,16,17,18,19,20] (λy=>[Vr y.1 [fv.val,dv.val,y.2.1.val,.map (some y.2.2)],Row y.2.1 eSV (List.replicate fs.length SV.nil),Mv y.2.2 []]) (Vr M [fv.val]::H) ?_ ?_)))
 ·refine wD [5,6,8] (λk H=>(k=0→dQ H M [fv.val])∧(k=3→dQ H M [fv.val])∧(k=4→Sl H fv eF fs)) (?_);refine aN 0 rfl (λH hH=>aX) (?_);refine aF 1 (k:=aF 2 (k:=?_));refine aN 3 rfl (λH hH=>ar) (?_);refine go ?_;refine Bw 5 6 rfl rfl (aa) rfl rfl (λk hk=>⟨λhi=>bm,λhi=>bm,λhi=>bm⟩) (gn eSV SV.nil rfl rfl _ _ rfl rfl rfl (a8) (a8) (a8)) (x8) ?_ ?_
  ·rintro _ _ ⟨h,rfl,p,u,rfl⟩;refine aS 6 rfl (x8) ?_;rintro _ _ ⟨n,rfl,rfl⟩;refine af_ 7 (q:=ea λH hH=>bld [(0,_),(1,_),(2,_),(3,_)]) (k:=?_);refine aS 8 rfl (x9 rfl) ?_;rintro _ _ ⟨x,rfl,rfl⟩;refine gk (k:=aZ (jnE ((x,h,n)) (q:=?_)));trivial
  rintro _ _ ⟨n,rfl,rfl⟩;refine aS 5 rfl (gn eSV SV.nil rfl rfl _ _ rfl rfl rfl (a8) (a8) (a8)) ?_;rintro _ _ ⟨h,rfl,p,u,rfl⟩;refine af_ 7 (q:=ea λH hH=>bld [(0,_),(1,_),(2,_),(3,_)]) (k:=?_);refine aS 8 rfl (x9 rfl) ?_;rintro _ _ ⟨x,rfl,rfl⟩;refine gk (k:=aZ (jnE ((x,h,n)) (q:=?_)));trivial
 rintro⟨g,b,r⟩ -
 try dsimp only[Yd,Ye]at*
 refine ws_ (ws_ (wr_ (?_)));refine eu (dH.keep (dH.keep HM)) ?_;refine eu (Lp fs.length) ?_;rw[show List.replicate fs.length SV.nil=(List.replicate fs.length ((SV.nil, []):SV×List Nat)).map (·.1)from aq,show kl r []=kl r (pL fs ds 0)from rfl];refine gk (k:=e8 (Nat×(List (SV×List Nat))) (λy=>y.1≤fs.length∧y.2.map (·.2)=(List.range y.1).map (eL fs ds)++List.replicate (fs.length-y.1) []) (λy=>[(24,iN y.1)]) [(1,_),(2,_),(5,_),(23,_)] (λy=>[Row b eSV (y.2.map (·.1)),Cl lnH y.2,kl r (pL fs ds y.1)]) _ (λy=>fs.length-y.1) ((0,List.replicate fs.length (SV.nil, []))) (h0:=?_) (k:=?_))
 ·try dsimp only
  exact⟨Yl _,aq⟩
 rintro⟨f,zs⟩ ⟨hf1,hzs⟩
 try dsimp only[Yd,Ye]at*
 refine gW (λh1=>?_) (λh1=>?_)
 ·have hzl:zs.length=fs.length:=by have:=congrArg List.length hzs;simp at this;omega
  obtain⟨z,V⟩:=gE zs f;have hml:(zs.map (·.1)).length=zs.length:=Yh ..;have J:(dT (eL fs ds f)).length=l.length:=by rw[eJ,eL,Yh,K]
  obtain⟨N,T⟩:∃N,fs.length-f=N+1:=⟨fs.length-f-1,a8⟩;have E:=λs=>Lr (A:=(List.range f).map (eL fs ds)) s (eL fs ds f) (by rw[←T];exact hzs);rw[Yh,List.length_range]at E;refine go ?_;refine wD [7,9] (λk H=>(k=2→dQ H g [fv.val,dv.val,b.val,.map (some r)])∧(k=3→dQ H g [fv.val,dv.val,b.val,.map (some r)])∧(k=6→Sl H dv eD l)∧(k=8→Sl H b eSV (zs.map (·.1)))) (aF 0 (k:=aF 1 (k:=?_)));refine aN 2 rfl (λH hH=>bM) (?_);refine aN 3 rfl (λH hH=>ar) (?_);refine aF 4 (k:=aF 5 (k:=?_));refine go ?_;refine aS 7 rfl (gn eI 0 rfl rfl _ _ rfl rfl rfl (a8) (a8) (a8)) ?_;rintro _ _ ⟨a,rfl,hs34n,hs34c,rfl⟩;refine go ?_;refine aS 9 rfl (et (i:=f) rfl rfl rfl (a8)) ?_;rintro _ _ ⟨rfl,rfl⟩;refine aZ (qn_ (ws_ (wr_ (?_))));rw[show(zs.map (·.1)).set f a=(zs.set f (a,eL fs ds f)).map (·.1)from by rw[R9],show Row a eI (List.replicate l.length (0:Int))=Row a eI (gx (dT (eL fs ds f)) 0 0)from by rw[mW,J],show kl r (pL fs ds f)=kl r (pL fs ds f++gN fs f 0 (ds.take 0))from by simp[gN]];refine eu (gJ (A:=Cl lnH zs) inferInstance ((GI V).trans (dH.drop dH.refl))) ?_;have F:((zs.set f (a,eL fs ds f)).map (·.1))[f]? =some a:=by rw[Xd,Ue (a8)];all_goals rfl
  have hlvl:((zs.set f (a,eL fs ds f)).map (·.1)).length=fs.length:=by rw[Yh,Ub,hzl]
  refine gk (k:=e8 (Nat) (λy=>y≤l.length) (λy=>[(38,iN y)]) [(1,_),(2,_),(5,_),(6,_),(23,_),(24,_),(36,_),(37,_)] (λy=>[Row a eI (gx (dT (eL fs ds f)) 0 y),kl r (pL fs ds f++gN fs f 0 (ds.take y))]) _ (λy=>l.length-y) (0) (h0:=?_) (k:=?_))
  ·try dsimp only
   exact Yl _
  rintro j hj
  try dsimp only[Yd,Ye]at*
  refine gW (λh2=>?_) (λh2=>?_)
  ·obtain⟨d,s,vs,hlj,w,hsl⟩:=L.get (i:=j) (a8);have e:=Yj w;obtain⟨C,B⟩:=Y _ e;have R:=rP e;have hfl2:=oU fs f vs;have hp1:=CC fs ds f;have hp2:=vx fs f (ds.take j) 0;have hp3:=Fx ds j;have hp4:f*dsz ds≤16*dsz ds:=Vu _ (a8);have hg1:(dT (eL fs ds f))[j]? =some (((eZ fs f vs).length:Nat):Int):=gh (by rw[eL,Xd,w];all_goals rfl);have hfll:=kG (full:=dT (eL fs ds f)) (z:=(0:Int)) (i:=j) (a8);simp only at C B R;refine gk (k:=alc (k:=λb8=>?_));refine go ?_;refine c3_ rfl (Sf Z (a8) (a8) C B (a8)) ?_;rintro _ _ ⟨s47,rfl,rfl⟩;refine e_ asn (on_ (qn_ (ws_ (wr_ (e_ mv (e_ nck (e_ fla (e_ ldv (e_ mv (e_ ixa (e_ (lel (hy:=F)) (go ?_))))))))))));refine go ?_;refine s_ (et (i:=j) rfl rfl rfl (a8)) ?_;rintro _ _ ⟨rfl,rfl⟩;rw[oT hg1];refine on_ (qn_ (ws_ (wr_ (?_))));rw[show kl r (pL fs ds f++gN fs f 0 (ds.take j))=kl r (pL fs ds f++gN fs f 0 (ds.take j)++(od fs f j vs).take 0)from aq];refine gk (k:=e8 (Nat) (λy=>y≤(eZ fs f vs).length) (λy=>[(61,iN y)]) [(1,_),(2,_),(5,_),(6,_),(7,_),(23,_),(24,_),(36,_),(37,_),(38,_),(59,_),(60,_)] (λy=>[kl r (pL fs ds f++gN fs f 0 (ds.take j)++(od fs f j vs).take y)]) _ (λy=>(eZ fs f vs).length-y) (0) (h0:=?_) (k:=?_))
   ·try dsimp only
    exact Yl _
   rintro m hm
   try dsimp only[Yd,Ye]at*
   refine gW (λh3=>?_) (λh3=>?_)
   ·obtain⟨t,X⟩:=gE (eZ fs f vs) m;have htl:=vY (Yj X);have S:(od fs f j vs).take (m+1)=(od fs f j vs).take m++ [(dC (tZ f (eG t.text)),j,t.pos)]:=by simp only[od,←List.map_take];exact tS X
    have htl3:((od fs f j vs).take m).length≤(eZ fs f vs).length:=by rw[Yg,od,Yh];omega
    have U:(pL fs ds f++gN fs f 0 (ds.take j)++(od fs f j vs).take m).length≤1000000000:=aj;have hsz:=j9 t.text;refine gk (k:=alc (k:=λc=>?_));refine go ?_;refine wD [8] (λk H=>(k=2→dQ H c [.string (eG t.text),iN t.value,iN t.pos,iN t.st,iN t.en])∧(k=3→dQ H c [.string (eG t.text),iN t.value,iN t.pos,iN t.st,iN t.en])∧(k=6→dQ H c [.string (eG t.text),iN t.value,iN t.pos,iN t.st,iN t.en])∧(k=7→dQ H c [.string (eG t.text),iN t.value,iN t.pos,iN t.st,iN t.en])) (aF 0 (k:=aF 1 (k:=?_)));refine aN 2 rfl (λH hH=>bM) (?_);refine aN 3 rfl (λH hH=>ar) (?_);refine dS 4 rfl rfl (aa) rfl (λH _=>iR (vs:= [_,_]) rfl (Wc (a8)) H rfl) (?_);refine aF 5 (k:=?_);refine aN 6 rfl (λH hH=>by have hN:=hH.2.2.1 rfl;exact fla) (?_);refine go ?_;refine aS 8 rfl (lU (vs:= [_,_,_,_]) rfl (Z8 (r:=r) U)) ?_;rintro _ _ ⟨rfl,rfl⟩;rw[Yf,←S];refine aZ (go ?_);refine lN (m+1) ?_
    try dsimp only
    omega
   obtain rfl:m=(eZ fs f vs).length:=a8;rw[Yf,show gN fs f 0 (ds.take j)++(od fs f j vs).take (eZ fs f vs).length=gN fs f 0 (ds.take (j+1))from by rw[Fy w,show(od fs f j vs).take (eZ fs f vs).length=od fs f j vs from Xr (by simp[od])]];refine go ?_;refine lN (j+1) ?_
   try dsimp only
   omega
  obtain rfl:j=l.length:=a8;rw[show gx (dT (eL fs ds f)) 0 l.length=dT (eL fs ds f)from by rw[←J,nu],show ds.take l.length=ds from by rw[K,Xn],←uU];refine we_ (qe_ (le_ (bh_ (bn_ (qn_ (wr_ (?_)))))));refine eu (dH.trans (H':=Row a eI (dT (eL fs ds f))::Cl lnH (zs.take f)::Cl lnH (zs.drop (f+1))::Row b eSV ((zs.set f (a,eL fs ds f)).map (·.1))::kl r (pL fs ds (f+1))::Vr g [fv.val,dv.val,b.val,.map (some r)]::Vr M [fv.val]::H) (hsb) (Lq (a,eL fs ds f) (a8))) ?_;refine go ?_;refine lN ((f+1,zs.set f (a,eL fs ds f))) ?_
  try dsimp only
  exact⟨a8,by rw[E a,X9,Xp,show fs.length-(f+1)=N from a8];all_goals rfl⟩
 obtain rfl:f=fs.length:=a8;rw[Ui,List.replicate_zero,Ym]at hzs;rw[show pL fs ds fs.length=fU fs ds from rfl];refine gR ?_;exact⟨_,hsb,g,b,r,zs,rfl,hzs,rfl⟩
end
section
variable {k:List Nat}{ts:List Tri}
abbrev nQ:=List Nat×List Po
def j8:Nat→List nQ→List En
 |_, []=>[]
 |n,p::r=>⟨eG p.1,p.2.length,ec p.2,n,(eO p.2).length⟩::j8 (n+(eO p.2).length) r
def eV (rs:List nQ):List Nat:=rs.flatMap λp=>eO p.2
theorem ka:∀(rs:List nQ) (n:Nat),(j8 n rs).length=rs.length
 | [],_=>rfl
 |p::r,n=>by simp[j8,ka r]
theorem qR {rs:List nQ}{i:Nat}{p:nQ}(h:rs[i]? =some p):eV (rs.take (i+1))=eV (rs.take i)++eO p.2:=by rw[dK h];simp[eV]
theorem oV:∀{rs:List nQ}{n i:Nat}{p:nQ},rs[i]? =some p→(j8 n rs)[i]? =some ⟨eG p.1,p.2.length,ec p.2,n+(eV (rs.take i)).length,(eO p.2).length⟩
 | [],_,_,_,h=>aK
 |q::r,n,0,p,h=>by simp at h;subst h;simp[j8,eV]
 |q::r,n,i+1,p,h=>by
  rw[Xc]at h;rw[j8,Xc,oV h,Vq];simp only[eV,Vx,Ya,V0]
def gD (fs:List FV) (v:Val):List Nat:=uv ((ig fs (dC v.1)).getD 0)++(uv v.2.size++dC v.2)
def tx (fs:List FV) (d:Doc):List Nat:=uv d.2.length++d.2.flatMap (gD fs)
def gm (fs:List FV) (ds:List Doc):List Nat:=ds.flatMap (tx fs)
def nX (fs:List FV) (ds:List Doc) (n:Nat):List Nat:=(List.range n).flatMap λf=>ff (eL fs ds f)
def pU (ds:List Doc):List Nat:=uv ds.length++iQ (-1) (ds.map (·.1))
def oC (fs:List FV) (ds:List Doc):List (Nat×List Nat):= [(1,Bh fs),(2,pU ds),(3,nX fs ds fs.length),(4,iC (j8 0 (eE (fU fs ds)))),(5,eV (eE (fU fs ds))),(6,gm fs ds)]
def Ck (fs:List FV) (ds:List Doc):List Nat:=nN 83 (oC fs ds)
structure yF (ts:List Tri):Prop where
 up:UpT ts
 few:ts.length≤100000000
 small:∀t∈ts,t.1.length≤65∧1≤t.1.length∧(∀x∈t.1,x<256)∧t.2.1≤99999∧t.2.2<1099511627776
theorem wk {x:Nat×Nat}(h:x∈ofK ts k):(k,x)∈ts:=by
 obtain⟨t,a,rfl⟩:=Xt.1 h;obtain⟨h1,h2⟩:=List.mem_filter.1 a;have:=Yt h2;rw[←this];exact h1
theorem CH:∀{l:List Po}{nb m:Nat},j5 nb l→(∀p∈l,p.1≤m)→l.length+nb≤m+1∨l= []
 | [],_,_,_,_=>.inr rfl
 |p::r,nb,m,h,hm=>by
  have h1:=hm p aq;rcases CH (m:=m) h.2.2.2 (λq a=>hm q (Xa _ a))with h2|rfl
  ·left;have:=h.1;simp only[Yb];omega
  ·left;have:=h.1;simp only[Yb,Yc];omega
theorem oP (h:yF ts):j5 0 (jI (ofK ts k))∧fL (jI (ofK ts k))∧ec (jI (ofK ts k))≤ts.length:=by
 obtain⟨h1,h2⟩:=Pw (h.up k);obtain⟨h3,h4⟩:=rK (ofK ts k);have h5:=AN ts k;have hd:∀p∈jI (ofK ts k),p.1≤99999:=λp hp=>by
  obtain⟨i,hi⟩:=Vo hp;have a:=(jP h1 hi).2.1;obtain⟨x,hx⟩:=List.exists_mem_of_ne_nil _ a;have:=(h.small _ (wk (h2 p hp x hx))).2.2.2.1
  simpa using this
 refine⟨h1,⟨?_,λp hp=>⟨by have:=hd p hp;omega,?_,λx hx=>(h.small _ (wk (h2 p hp x hx))).2.2.2.2⟩⟩,a8⟩
 ·rcases CH h1 hd with h9|h9
  ·omega
  ·rw[h9];simp
 ·have:∀(l:List Po),p∈l→p.2.length≤ec l:=by
   intro l
   induction l with
   |nil=>intro hh;simp at hh
   |cons q l ih=>
    intro hh;simp only[ec,Xs,Vv]at ih⊢;rcases Xo.1 hh with rfl|hh
    ·omega
    ·have:=ih hh;omega
  have:=this _ hp;have:=h.few;omega
end
section
variable {G:dJ}{H:dD}{b:Nat}{fs:List FV}{xs:List Nat}
theorem YW {R:dD} [hr:Rem H Wr b xs R]:SC G prog 217 [pA b] H (λv a=>v=iN xs.length∧a=Wr b xs::R):=by
 refine xi hr λs=>?_;refine sWk func217 ?_;refine go ?_;exact gZ
theorem Rt {R:dD} [hr:Rem H Wr b xs R]:SC G prog 166 [pA b] H (λv a=>v=.tuple #[]∧a=Wr b []::R):=by
 refine xi hr λs=>?_;refine sWk func166 ?_;exact gZ
theorem C7 {v:Val}(hf:fs.length≤1000000) (hv:v.2.size≤3000000):(gD fs v).length≤v.2.size+20:=by
 have h1:(ig fs (dC v.1)).getD 0≤fs.length:=by
  cases h:ig fs (dC v.1)with
  |none=>simp
  |some i=>obtain⟨p,hp,_⟩:=rM h;have:=(Yk.1 hp).1;simp;omega
 have h2:=gb (n:=(ig fs (dC v.1)).getD 0) (k:=6) a8 a8;have h3:=gb (n:=v.2.size) (k:=6) a8 a8;simp only[gD,Ya,dI];omega
theorem pC (hf:fs.length≤1000000):∀{vs:List Val},(∀v∈vs,v.2.size≤3000000)→(vs.flatMap (gD fs)).length≤vsz vs
 | [],_=>aq
 |v::vs,h=>by
  have h1:=C7 hf (h v aq);have h2:=pC hf (λu a=>h u (Xa _ a));simp only[Vx,Ya,vsz,Xs,Vv]at h2⊢;omega
theorem kX (hf:fs.length≤1000000):∀{ds:List Doc},(∀d∈ds,d.2.length≤100000000∧∀v∈d.2,v.2.size≤3000000)→(gm fs ds).length≤10*ds.length+dsz ds
 | [],_=>by simp[gm]
 |d::ds,h=>by
  have h1:=pC hf (h d aq).2;have h2:=kX hf (λu a=>h u (Xa _ a));have h3:=gb (n:=d.2.length) (k:=6) (by have:=(h d aq).1;omega) a8;simp only[gm,tx,Vx,Ya,dsz,Xs,Vv,Yb]at h2⊢;omega
theorem NF {g:Nat}{fv dv:SV}{B A:Value}{l:List (Int×SV)}{ds:List Doc} [hg:dQ H g [fv.val,dv.val,B,A]] [hf:Sl H fv eF fs] [hd:Sl H dv eD l] (z:gK H l ds) (q:fs.length≤1000000) (hn:ds.length≤100000) (L:∀d∈ds,d.2.length≤100000000∧∀v∈d.2,v.2.size≤3000000) (hz:dsz ds≤30000000) (R:∀d∈ds,∀v∈d.2,∃k,ig fs (dC v.1)=some k):
 SC G prog 168 [pA g] H (λv U=>∃s:SV,v=s.val∧U=Row s eB (gm fs ds)::H):=by
 have N:=z.1;refine sWk func168 ?_;refine go ?_;refine c0_ rfl iM ?_;rintro _ _ ⟨r,rfl,rfl⟩;refine e_ asn (on_ (qn_ (ws_ (ws_ (wr_ ?_)))));rw[show Wr r []=Wr r (gm fs (ds.take 0))from rfl];refine gk (k:=e8 Nat (λy=>y≤l.length) (λy=>[(16,iN y)]) [(0,_),(3,_),(14,_),(15,_)] (λy=>[Wr r (gm fs (ds.take y))]) _ (λy=>l.length-y) (0) (h0:=?_) (k:=?_))
 ·exact Yl _
 rintro i hi
 try dsimp only[Yd,Ye]at*
 refine gW (λh1=>?_) λh1=>?_
 ·obtain⟨d,s,vs,hli,x,hsl⟩:=z.get (i:=i) a8;have e:=Yj x;obtain⟨K,m⟩:=L _ e;have J:=rP e;have c:=kX (fs:=fs) (ds:=ds.take i) q (λd hd=>L d (Yq hd));have hdz:=Fx ds i;rw[Yg]at c;simp only at K m J;obtain⟨a,h⟩:=ex (gm fs (ds.take i));rw[←h]at c⊢;have t:gm fs (ds.take (i+1))=a++uv vs.length++vs.flatMap (gD fs):=by rw[dK x,h];simp[gm,tx]
  have S:=gb (n:=vs.length) (k:=6) a8 a8;refine gk (k:=alc (k:=λb5=>?_));refine sto (k:=on_ (qn_ (ws_ (wr_ (e_ mv (e_ fla (e_ ldv (e_ lnn ?_))))))));refine e_ ((ad)) ?_;refine d2_ rfl (gl _ a8 a8) (on_ (qn_ (ws_ (wr_ ?_))));rw[show Wr r (a++uv vs.length)=Wr r (a++uv vs.length++(vs.take 0).flatMap (gD fs))from aq];refine gk (k:=e8 Nat (λy=>y≤vs.length) (λy=>[(29,iN y)]) [(0,_),(3,_),(14,_),(15,_),(16,_),(27,_),(28,_)] (λy=>[Wr r (a++uv vs.length++(vs.take y).flatMap (gD fs))]) _ (λy=>vs.length-y) (0) (h0:=?_) (k:=?_))
  ·exact Yl _
  rintro j hj
  try dsimp only[Yd,Ye]at*
  refine gW (λh2=>?_) λh2=>?_
  ·obtain⟨v,hv⟩:=gE vs j;have hvs:=m v (Yj hv);have hvl:=pC (fs:=fs) (vs:=vs.take j) q (λu S=>m u (Yq S));have hvz2:=wR vs j;obtain⟨E,p⟩:=ex (a++uv vs.length++(vs.take j).flatMap (gD fs));have hp2l:E.length≤100000000:=by rw[p];simp only[Ya];omega
   have w:a++uv vs.length++(vs.take (j+1)).flatMap (gD fs)=E++gD fs v:=by rw[p,dK hv];simp
   rw[←p];refine gk (k:=alc (k:=λT=>?_));refine go ?_;refine wD [6] (λk H=>(k=2→dQ H g [fv.val,dv.val,B,A])∧(k=3→dQ H g [fv.val,dv.val,B,A])∧(k=5→dQ H T [.string v.1,.string v.2])) (aF 0 (k:=aF 1 (k:=?_)));refine aN 2 rfl (λH hH=>bM) ?_;refine aN 3 rfl (λH hH=>by have hN:=hH.2.1 rfl;exact lds) ?_;refine aF 4 (k:=?_);refine go ?_;refine aS 6 rfl (lU (vs:= [_,_]) rfl (Wh a8)) ?_;rintro _ _ ⟨k,b,rfl,hkb,rfl⟩;refine gk (k:=aZ (qn_ (ws_ (wr_ ?_))));obtain⟨F,f⟩:=R _ e v (Yj hv);obtain rfl:F=k:=by
    rcases hkb with⟨_,h9⟩|⟨_,h9⟩
    ·rw[f]at h9;exact Xk h9
    ·rw[f]at h9;cases h9
   obtain⟨pf,M,_⟩:=rM f;have hkl:=(Yk.1 M).1;have hu2:=gb (n:=F) (k:=6) a8 a8;refine e_ mv (e_ mv ?_);refine e_ ((ad)) ?_;refine d2_ rfl (gl _ a8 a8) (go ?_);refine d2_ rfl (Jj _ aj a8) ?_;rw[show E++uv F++(uv v.2.size++dC v.2)=a++uv vs.length++(vs.take (j+1)).flatMap (gD fs)from by rw[w,gD,f];simp];refine go ?_;refine lN (j+1) ?_
   try dsimp only
   omega
  obtain rfl:j=vs.length:=a8;rw[Xn,←t];refine go ?_;refine lN (i+1) ?_
  try dsimp only
  omega
 obtain rfl:i=l.length:=a8;rw[show ds.take l.length=ds from by rw[N,Xn]];have c:=kX (fs:=fs) (ds:=ds) q L;refine go ?_;refine c1_ rfl (kK a8) ?_;rintro _ _ ⟨C,rfl,rfl⟩;refine gR ?_;exact⟨_,hsb,C,rfl,rfl⟩
end
section
variable {ds:List Doc}{fs:List FV}
theorem oI {α:Type} [DecidableEq α]:∀{l m:List α},l.Nodup→(∀x∈l,x∈m)→l.length≤m.length
 | [],_,_,_=>Yl _
 |a::l,m,hn,h=>by
  obtain⟨h1,h2⟩:=U1.1 hn;have h3:=oI (m:=m.erase a) h2 λx hx=>(List.mem_erase_of_ne (λe=>h1 (by rw[←e];exact hx))).2 (h x (Xa _ hx));have h4:=h a aq;rw[List.length_erase_of_mem h4]at h3;have:=List.length_pos_of_mem h4;simp only[Yb];omega
theorem zj (rs:List nQ) (i:Nat):(eV (rs.take i)).length≤(eV rs).length:=by
 conv=>rhs;rw[←Vd i rs,eV,S5,Ya]
 exact Nat.le_add_right _ _
structure mg (fs:List FV) (ds:List Doc):Prop where
 chk:iK fs=true
 few:ds.length≤4096
 pos:o8 (ds.map (·.1))=false
 up:rise (ds.map (·.1))=true
 ids:∀d∈ds,d.1<1099511627776
 vals:∀d∈ds,jv fs d.2=0
 size:dsz ds≤30000000
 toks:(fU fs ds).length≤2000000
theorem zE:∀{vs:List Val},lO fs vs=0→∀v∈vs,vW fs v=0
 | [],_,v,hv=>by simp at hv
 |u::vs,h,v,hv=>by
  rw[lO]at h
  split at h
  ·rename_i h0;rcases Xo.1 hv with rfl|hv
   ·exact h0
   ·exact zE h v hv
  ·rename_i h0;exact absurd h h0
theorem np {vs:List Val}(h:jv fs vs=0):vs.length≤64∧∀v∈vs,v.2.size≤4096∧∃k,ig fs (dC v.1)=some k:=by
 rw[jv]at h
 split at h
 ·cases h
 ·split at h
  ·cases h
  ·refine⟨a8,λv hv=>?_⟩;have h1:=zE h v hv;rw[vW]at h1
   split at h1
   ·cases h1
   ·rename_i k hk
    split at h1
    ·cases h1
    ·exact⟨a8,k,hk⟩
theorem mg.flen (h:mg fs ds):fs.length≤16:=(jx h.chk).1.2
theorem mg.q (h:mg fs ds):∀d∈ds,d.2.length≤100000000∧∀v∈d.2,v.2.size≤3000000:=λd hd=>by
 obtain⟨h1,h2⟩:=np (h.vals d hd);exact⟨a8,λv hv=>by have:=(h2 v hv).1;omega⟩
theorem mg.fd (h:mg fs ds):∀d∈ds,∀v∈d.2,∃k,ig fs (dC v.1)=some k:=λd hd v hv=>((np (h.vals d hd)).2 v hv).2
theorem Jd (w:List Nat):∀(i:Nat) (a:Option Nat) (out:List Tok),gj w i=(a,out)→∀(j:Nat) (t:Tok),out[j]? =some t→t.pos=j
 | 0,a,out,h,j,t,ht=>by cases h;simp at ht
 |i+1,a,out,h,j,t,ht=>by
  obtain⟨d,c,h0⟩:∃d c,gj w i=(d,c):=⟨_,_,rfl⟩;have e:=Jd w i d c h0;cases hin:inW w i with
  |true=>
   cases d with
   |none=>rw[mP h0 hin]at h;cases h;exact e j t ht
   |some b=>rw[uG h0 hin]at h;cases h;exact e j t ht
  |false=>
   cases d with
   |none=>rw[rp h0 hin]at h;cases h;exact e j t ht
   |some b=>
    rw[rq h0 hin]at h;cases h
    by_cases hj:j<c.length
    ·rw[Yv hj]at ht;exact e j t ht
    ·rw[Yu a8]at ht;have f:j-c.length=0:=by
            have:=(Yk.1 ht).1;simp at this;omega
     rw[f]at ht;simp at ht;subst ht;show c.length=j;omega
theorem uH (w:List Nat) {j:Nat}{t:Tok}(h:(gy w)[j]? =some t):t.pos=j:=Jd w _ _ _ rfl j t h
def oa (l:List Tok):Prop:=l.Pairwise λa b=>a.pos<b.pos
theorem E8 (w:List Nat):oa (gy w):=by
 rw[oa,T4];intro i j hi hj hij;have h1:=uH w (Yi hi);have h2:=uH w (Yi hj);omega
theorem xR {p:FV}{t u:Tok}(h:me p t=some u):u.pos=t.pos:=by
 rw[me]at h
 split at h
 ·split at h
  ·obtain rfl:=Xk h;rfl
  ·cases h
 ·cases h
theorem HJ (p:FV) (w:List Nat):oa (fF p w)∧∀t∈fF p w,t.pos<ir p w+1:=by
 rw[fF,ir]
 split
 ·rename_i hk
  constructor
  ·rw[oa,List.pairwise_filterMap];refine(E8 w).imp fun{a b} h u hu v hv=>?_;rw[xR hu,xR hv];exact h
  ·intro t c;obtain⟨t0,h0,hk⟩:=List.mem_filterMap.1 c;obtain⟨j,hj⟩:=Vo h0;have:=(Yk.1 hj).1;rw[xR hk,uH w hj];omega
 ·split
  ·split
   ·exact⟨by simp[oa],λt c=>by simp at c;subst c;simp⟩
   ·exact⟨by simp[oa],λt c=>by simp at c⟩
  ·split
   ·split
    ·exact⟨by simp[oa],λt c=>by simp at c;subst c;simp⟩
    ·exact⟨by simp[oa],λt c=>by simp at c⟩
   ·exact⟨by simp[oa],λt c=>by simp at c⟩
theorem D5 (p:FV) (vs:List Val):∀(i b:Nat) (out:List Tok),gM p vs i=(b,out)→oa out∧∀t∈out,t.pos<b
 | 0,b,out,h=>by cases h;exact⟨by simp[oa],aq⟩
 |i+1,b,out,h=>by
  obtain⟨e,d,h0⟩:∃e d,gM p vs i=(e,d):=⟨_,_,rfl⟩;obtain⟨g,f⟩:=D5 p vs i e d h0;rw[gM,h0]at h
  split at h
  ·cases h;exact⟨g,f⟩
  ·rename_i v hv
   split at h
   ·cases h;obtain⟨m,l⟩:=HJ p (dC v.2)
    constructor
    ·rw[oa,Uj];refine⟨g,U8.2 (m.imp fun{a c} hac=>?_),λa ha c hc=>?_⟩
     ·show a.pos+e<c.pos+e;omega
     ·obtain⟨n,hc0,rfl⟩:=Xt.1 hc;have:=f a ha;show a.pos<n.pos+e;omega
    ·intro t ht;rcases Xm.1 ht with ht|ht
     ·have:=f t ht;show t.pos<e+_;omega
     ·obtain⟨k,j,rfl⟩:=Xt.1 ht;have:=l k j;show k.pos+e<e+(ir p (dC v.2)+16);omega
   ·cases h;exact⟨g,f⟩
theorem yd (fs:List FV) (k:Nat) (vs:List Val):oa (eZ fs k vs)∧∀t∈eZ fs k vs,t.pos<vsz vs:=by
 unfold eZ
 split
 ·rename_i p hp;obtain⟨h1,h2⟩:=D5 p vs vs.length _ _ rfl;have h3:=(B7 p vs vs.length _ _ rfl).1;rw[Xn]at h3;exact⟨h1,λt a=>Q6 (h2 t a) h3⟩
 ·exact⟨by simp[oa],aq⟩
theorem wm (a b:List Tri) (k:List Nat):ofK (a++b) k=ofK a k++ofK b k:=by simp[ofK]
theorem rQ {f:Nat}:∀{l:List Doc}{k:Nat}{t:Tri},t∈gN fs f k l→∃j d u,l[j]? =some d∧u∈eZ fs f d.2∧t=(dC (tZ f (eG u.text)),k+j,u.pos)
 | [],k,t,h=>by simp[gN]at h
 |d::l,k,t,h=>by
  rcases Xm.1 h with h|h
  ·obtain⟨u,a,rfl⟩:=Xt.1 h;exact⟨0,d,u,rfl,a,rfl⟩
  ·obtain⟨j,b,u,h1,h2,h3⟩:=rQ h;exact⟨j+1,b,u,h1,h2,by rw[h3,V0,Nat.add_comm 1 j]⟩
theorem Dr (fs:List FV) (f:Nat):∀(l:List Doc) (k:Nat),(gN fs f k l).Pairwise λa b=>ltP a.2 b.2
 | [],_=>by simp[gN]
 |d::l,k=>by
  rw[gN,Uj];refine⟨U8.2 ((yd fs f d.2).1.imp fun{a b} h=>.inr ⟨rfl,h⟩),Dr fs f l (k+1),λa ha b c=>?_⟩;obtain⟨u,hu,rfl⟩:=Xt.1 ha;obtain⟨j,d',u',h1,h2,rfl⟩:=rQ c;exact .inl (by show k<k+1+j;omega)
theorem xu {n:Nat}{t:Tri}(h:t∈pL fs ds n):∃f j d u,f<n∧ds[j]? =some d∧u∈eZ fs f d.2∧t=(dC (tZ f (eG u.text)),j,u.pos):=by
 obtain⟨f,a,h⟩:=U4.1 h;obtain⟨j,d,u,h1,h2,h3⟩:=rQ h;exact⟨f,j,d,u,List.mem_range.1 a,h1,h2,by rw[h3,Vw]⟩
theorem AK (fs:List FV) (ds:List Doc) (k:List Nat):∀n,n≤256→(ofK (pL fs ds n) k).Pairwise ltP
 | 0,_=>by simp[pL,ofK]
 |n+1,h=>by
  rw[uU,wm,Uj];refine⟨AK fs ds k n a8,?_,λa ha b g=>?_⟩
  ·exact U8.2 ((Dr fs n ds 0).filter _)
  ·exfalso;obtain⟨f,j,d,u,h1,h2,h3,h4⟩:=xu (wk ha);obtain⟨j',d',e,h5,h6,i⟩:=rQ (wk g);have c:dC (tZ f (eG u.text))=dC (tZ n (eG e.text)):=((congrArg (λz:Tri=>z.1) h4).symm).trans (congrArg (λz:Tri=>z.1) i);simp only[rR]at c;have:=(List.cons.inj c).1;omega
theorem mg.goodT (h:mg fs ds):yF (fU fs ds):=by
 have hf:=h.flen;refine⟨λk=>AK fs ds k fs.length a8,by have:=h.toks;omega,λt a=>?_⟩;obtain⟨f,j,d,u,h1,h2,h3,rfl⟩:=xu a;have hs:=vY h3;have hp:=(yd fs f d.2).2 u h3;have hv:=rP (Yj h2);have hj:=(Yk.1 h2).1;have hz:=h.size;have hfew:=h.few;have hl:(dC (tZ f (eG u.text))).length=1+u.text.length:=by rw[rR,Yb,dI,j9];omega
 refine⟨bJ,bJ,λx hx=>lZ _ x hx,bJ,bJ⟩
end
section
variable {H R:dD}{e:EG}{es:List EG}{i:Nat}
def ot:Prop:=∀(G:dJ) (H R:dD) (s:SV) (ss:List ByteArray),mh H s eS ss R→ss.length≤1000000000→SC G prog 215 [s.val] H (λv H'=>v=.tuple #[]∧∃ss':List ByteArray,ss'.Perm ss∧(ss'.map dC).Pairwise (λa b=>¬b<a)∧H'=Row s eS ss'::R)
theorem vM:∀{l:List (List Nat)},l.Nodup→l.Pairwise (λa b=>¬b<a)→tm l
 | [],_,_=>List.Pairwise.nil
 |a::l,hn,h=>by
  obtain⟨h1,h2⟩:=U1.1 hn;obtain⟨h3,h4⟩:=Vl.1 h;refine Vl.2 ⟨λb c=>?_,vM h2 h4⟩
  by_cases hlt:a<b
  ·exact hlt
  ·exact absurd (v7 hlt (λe=>h1 (e ▸ c))) (h3 b c)
theorem Wn (hr:nR H (Cl egH es) R) (he:es[i]? =some e):Sl H e.s ePo (e.l.map pgV):=
 ee (gJ hr (Bj he)) inferInstance
theorem Gt (hr:nR H (Cl egH es) R) (he:es[i]? =some e):su H (e.l.map pgV) (e.l.map pgP):=by
 refine⟨aq,λj p q hp a=>?_⟩;rw[Xd]at hp a;cases hj:e.l[j]? with
 |none=>rw[hj]at hp;cases hp
 |some x=>
  rw[hj]at hp a;obtain rfl:=Xk hp;obtain rfl:=Xk a;exact⟨rfl,show Sl H x.s eI (dT x.pos)from ee (gJ hr ((Bj he).trans (dH.drop (rD hj)))) inferInstance⟩
theorem RV {G:dJ}{g r:Nat}{v1 v2 v3:Value}{c:List Tri} [hg0:Glb G R] [hv:dQ R g [v1,v2,v3,.map (some r)]] [hr:Rem H kl r c R] (hS:ot) (Y:yF c) (b2:w9 (j8 0 (eE c))) (hpl:(eV (eE c)).length≤2147483647):SC G prog 162 [pA g] H (λv H'=>∃a b:SV,v=.tuple #[a.val,b.val,.nilIface]∧H'=Row a eB (iC (j8 0 (eE c)))::Row b eB (eV (eE c))::R):=by
 have hfew:=Y.few;refine sWk func162 ?_;refine ws_ (wr_ (e_ asn (e_ asn (e_ asn (on_ (qn_ (ws_ (wr_ ?_))))))));refine Gz hr λes f=>?_;have b3:=vf f;have hkl:(kvs es).length≤c.length:=by
  have h1:=oI (m:=c.map (·.1)) f.nodup λx hx=>(f.keys x).1 hx
  simpa [pe,kvs] using h1
 refine e_ mv (e_ nck (e_ fla (e_ ldv ?_)));refine e_ (PO rfl) ?_;refine s_ (gn eS ⟨#[]⟩ rfl rfl 0 (kvs es).length rfl rfl rfl a8 a8 a8) ?_;rintro _ _ ⟨a6,rfl,hs24n,hs24c,rfl⟩;refine go ?_;refine s_ (K4 rfl) ?_;rintro _ _ ⟨it,rfl,rfl⟩;refine gk (k:=e8 ((List ByteArray)×SV) (λy=>y.1.Nodup∧∀k∈y.1,k∈(kvs es).map (·.1)) (λy=>[(5,y.2.val)]) [(0,_),(29,_)] (λy=>[Rg (r,it) (kvs es,y.1),Row y.2 eS y.1]) _ (λy=>(kvs es).length-y.1.length) (([],a6)) (h0:=?_) (k:=?_))
 ·try dsimp only
  exact⟨List.nodup_nil,λk hk=>by simp at hk⟩
 rintro⟨d,s⟩ ⟨F,J⟩
 try dsimp only[Yd,Ye]at*
 refine go ?_;refine s_ (O5 (r:=r) rfl) ?_;rintro _ _ (⟨i,k,v,V,b5,rfl,rfl⟩|⟨a2,rfl,rfl⟩)
 ·have A:(d++ [k]).Nodup:=List.nodup_append.2 ⟨F,aq,λa ha b hb=>by simp at hb;subst hb;rintro rfl;exact b5 ha⟩;have B:∀x∈d++ [k],x∈(kvs es).map (·.1):=λx hx=>by
   rcases Xm.1 hx with hx|hx
   ·exact J x hx
   ·simp at hx;subst hx;exact Xt.2 ⟨_,Yj V,rfl⟩
  have hdl:=oI A B;rw[Ya,Yh,Ul]at hdl;refine gk (k:=ift (k:=wk_ (qn_ (wb_ (ws_ (wr_ ?_))))));refine e_ (Ms (q:=(kvs es,d++ [k])) (r:=r) (it:=it) rfl rfl V) ?_;refine gk (k:=fS eS (k:=λs36=>?_));refine app (k:=λa5=>?_);refine go ?_;refine ln_ ((d++ [k],a5)) (h2:=?_) (k:=?_)
  ·try dsimp only
   rw[Ya,Ul];omega
  exact⟨A,B⟩
 have hdl:=oI F J;rw[Yh]at hdl;have b0:d.Perm ((kvs es).map (·.1)):=(List.perm_ext_iff_of_nodup F b3).2 λx=>⟨J x,λhx=>by obtain⟨p,hp,rfl⟩:=Xt.1 hx;exact a2 p hp⟩;refine gk (k:=fM (k:=go ?_));refine eu (Qu (r:=r) (it:=it) inferInstance dH.refl) ?_;refine go ?_;refine c1_ rfl (hS G _ _ s d inferInstance a8) ?_;rintro _ _ ⟨rfl,h,b1,E,rfl⟩;have w:=b1.trans b0;have hksl:h.length=(kvs es).length:=by rw[w.length_eq,Yh]
 have X:h.map dC=oA (c.map (·.1)):=by
  refine xm (vM ?_ E) (kN _) λx=>?_
  ·have h1:=(w.map dC).nodup_iff.2 (by have h2:=f.nodup;rw[rV]at h2;simpa [Function.comp_def] using h2);exact h1
  ·rw[lJ,←f.keys,rV,(w.map dC).mem_iff];simp[Function.comp_def]
 have S:(eE c).length=h.length:=by rw[eE,Yh,←X,Yh]
 have a7:∀{i:Nat}{q:ByteArray},h[i]? =some q→(eE c)[i]? =some (dC q,jI (ofK c (dC q))):=fun{i q} hq=>by rw[eE,Xd,←X,Xd,hq];all_goals rfl
 have b7:=ka (eE c) 0;refine go ?_;refine c0_ rfl iM ?_;rintro _ _ ⟨bw,rfl,rfl⟩;refine go ?_;refine s_ (gn eEn ⟨⟨#[]⟩,0,0,0,0⟩ rfl rfl 0 h.length rfl rfl rfl a8 a8 a8) ?_;rintro _ _ ⟨C,rfl,hs43n,hs43c,rfl⟩;refine e_ asn (on_ (qn_ (ws_ (ws_ (wr_ ?_)))));rw[show Row C eEn (List.replicate 0 (⟨⟨#[]⟩,0,0,0,0⟩:En))=Row C eEn ((j8 0 (eE c)).take 0)from rfl,show Wr bw []=Wr bw (eV ((eE c).take 0))from rfl];refine gk (k:=e8 (Nat×SV) (λy=>y.1≤h.length) (λy=>[(8,y.2.val),(46,iN y.1)]) [(0,_),(7,_),(44,_),(45,_)] (λy=>[Row y.2 eEn ((j8 0 (eE c)).take y.1),Wr bw (eV ((eE c).take y.1))]) _ (λy=>h.length-y.1) ((0,C)) (h0:=?_) (k:=?_))
 ·exact Yl _
 rintro⟨i,u⟩ hi
 try dsimp only[Yd,Ye]at*
 refine gW (λh1=>?_) λh1=>?_
 ·obtain⟨q,hq⟩:=gE h i;have t:=a7 hq;have l:=oV (n:=0) t;have a9:q∈(kvs es).map (·.1):=w.mem_iff.1 (Yj hq);have z:=oP Y (k:=dC q);have j:(eV ((eE c).take (i+1))).length≤(eV (eE c)).length:=zj _ _;rw[qR t,Ya]at j;rw[Vw]at l;simp only at l j;refine go ?_;refine s_ (Cc rfl rfl) ?_;rintro _ _ ⟨rfl,(⟨m,e,he,b8,rfl⟩|⟨hno,rfl⟩)⟩
  ·have Z:=f.vals _ (Yj (uC he));simp only[b8]at Z;rw[←Z]at t l j z;refine e_ asn (on_ (qn_ (ws_ (wr_ ?_))));haveI hsle:=Wn (H:=Cl egH es::R) inferInstance he;have M:(e.l.map pgV).length=(e.l.map pgP).length:=aq;have b6:=Gt (H:=Cl egH es::R) inferInstance he;have hvl:(e.l.map pgV).length=e.l.length:=aq;have hgs:=z.2.1.1;refine go ?_;refine c1_ rfl (Sg (Gt inferInstance he) z.1 z.2.1 a8) ?_;rintro _ _ ⟨s58,rfl,rfl⟩;refine e_ mv (e_ exr (e_ exr (e_ asn (e_ asn (on_ (qn_ (ws_ (ws_ (wr_ (e_ mv ?_))))))))));refine e_ (dL rfl) ?_;refine gk (k:=fM (k:=go ?_));refine d1_ rfl YW (e_ mv (e_ lnn (e_ (bld [(0,_),(1,_),(3,_),(4,_)]) (alc (k:=λK=>?_)))));refine sto (k:=on_ (qn_ (ws_ (ws_ (wr_ ?_)))));rw[show Vr K [.string q,iN ((e.l.map pgV).length),.int .i64 0,iN ((eV ((eE c).take i)).length),iN ((eO (e.l.map pgP)).length)]=Vr K [.string q,iN ((e.l.map pgP).length),iN (ec ((e.l.map pgP).take 0)),iN ((eV ((eE c).take i)).length),iN ((eO (e.l.map pgP)).length)]from by rw[M];all_goals rfl];refine gk (k:=e8 Nat (λy=>y≤(e.l.map pgV).length) (λy=>[(74,iN y)]) [(0,_),(7,_),(8,_),(12,_),(14,_),(44,_),(45,_),(46,_),(72,_),(73,_)] (λy=>[Vr K [.string q,iN ((e.l.map pgP).length),iN (ec ((e.l.map pgP).take y)),iN ((eV ((eE c).take i)).length),iN ((eO (e.l.map pgP)).length)]]) _ (λy=>(e.l.map pgV).length-y) (0) (h0:=?_) (k:=?_))
   ·exact Yl _
   rintro m hm
   try dsimp only[Yd,Ye]at*
   refine gW (λh2=>?_) λh2=>?_
   ·obtain⟨lp,U⟩:=gE e.l m;have b4:(e.l.map pgV)[m]? =some (lp.d,lp.s):=by rw[Xd,U];all_goals rfl
    have T:(e.l.map pgP)[m]? =some (lp.d,lp.pos):=by rw[Xd,U];all_goals rfl
    haveI hslp:Sl (Cl egH es::R) lp.s eI (dT lp.pos):=(b6.2 m _ _ b4 T).2;have hil:=eJ lp.pos;have N:=ry T;simp only at N;have htl:ec ((e.l.map pgP).take (m+1))≤ec (e.l.map pgP):=by
     conv=>rhs;rw[←Vd (m+1) (e.l.map pgP),m6]
     exact Nat.le_add_right _ _
    refine gk (k:=alc (k:=λb16=>?_));refine sto (k:=on_ (qn_ (wr_ (e_ fla (e_ ldv (e_ fla (e_ ldv (e_ lnn ?_))))))));refine e_ (evq iad (congrArg (Value.int .i64) (show _=((ec ((e.l.map pgP).take (m+1)):Nat):Int)from a8))) (go ?_);refine lN (m+1) ?_
    try dsimp only
    omega
   obtain rfl:m=(e.l.map pgV).length:=a8;rw[show(e.l.map pgP).take (e.l.map pgV).length=e.l.map pgP from by rw[M,Xn]];have a1:eG (dC q)=q:=jW _;rw[a1]at l;have a0:=dK l;have htkl:((j8 0 (eE c)).take i).length≤h.length:=az;refine gk (k:=fS eEn (k:=λs88=>?_));refine app (k:=λa4=>?_);rw[←a0];refine go ?_;refine d2_ rfl (Eb a8 a8) ?_;rw[show eV ((eE c).take i)++eO (e.l.map pgP)=eV ((eE c).take (i+1))from(qR t).symm];refine go ?_;refine lN ((i+1,a4)) ?_
   try dsimp only
   omega
  exact absurd a9 hno
 obtain rfl:i=h.length:=a8;rw[show(j8 0 (eE c)).take h.length=j8 0 (eE c)from by rw[←S,←b7,Xn],show(eE c).take h.length=eE c from by rw[←S,Xn]];refine go ?_;refine c1_ rfl (Wj a8 b2) ?_;rintro _ _ ⟨a3,rfl,rfl⟩;refine go ?_;refine c1_ rfl (kK a8) ?_;rintro _ _ ⟨L,rfl,rfl⟩;refine gR ?_;exact⟨_,hsb,a3,L,rfl,rfl⟩
end
abbrev yS:=ByteArray×Nat×Nat
def ltS (a b:yS):Prop:=dC a.1<dC b.1∨dC a.1=dC b.1∧(a.2.1<b.2.1∨a.2.1=b.2.1∧a.2.2<b.2.2)
section
variable {a b:yS}
def leS (a b:yS):Prop:=¬ltS b a
theorem Li {c:yS}(h:ltS a b) (d:ltS b c):ltS a c:=by
 rcases h with h|⟨h1,h2⟩
 ·rcases d with d|⟨h3,_⟩
  ·exact .inl (zw h d)
  ·exact .inl (h3 ▸ h)
 ·rcases d with d|⟨h3,h4⟩
  ·exact .inl (h1 ▸ d)
  ·exact .inr ⟨h1.trans h3,by rcases h2 with h2|h2 <;> rcases h4 with h4|h4 <;> omega⟩
theorem Lj (h:ltS a b):leS a b:=λc=>by
 have h9:=Li h c;rcases h9 with h9|⟨_,h9⟩
 ·exact ni _ h9
 ·omega
theorem Lt {c:yS}(h:leS a b) (g:leS b c):leS a c:=λd=>by
 by_cases hab:ltS a b
 ·exact g (Li d hab)
 ·
  have e:dC a.1=dC b.1:=by
   by_cases e:dC a.1=dC b.1
   ·exact e
   ·by_cases l:dC a.1<dC b.1
    ·exact absurd (.inl l) hab
    ·exact absurd (.inl (v7 l e)) h
  have j:a.2=b.2:=by
   have h1:¬(a.2.1<b.2.1∨a.2.1=b.2.1∧a.2.2<b.2.2):=λf=>hab (.inr ⟨e,f⟩);have h2:¬(b.2.1<a.2.1∨b.2.1=a.2.1∧b.2.2<a.2.2):=λf=>h (.inr ⟨e.symm,f⟩);exact Prod.ext a8 a8
  have i:a=b:=Prod.ext (jy.1 e) j;rw[i]at d;exact g d
structure J9 (l out av bv:List yS):Prop where
 perm:(out++(av++bv)).Perm l
 up:out.Pairwise leS
 low:∀x∈out,∀y∈av++bv,leS x y
 ua:av.Pairwise leS
 ub:bv.Pairwise leS
theorem J9.left {l out e c:List yS}(h:J9 l out (a::e) c) (f:∀b,c.head? =some b→ltS a b):J9 l (out++ [a]) e c:=by
 obtain⟨h1,h2⟩:=Vl.1 h.ua;have d:∀y∈c,leS a y:=by
  intro y hy;cases c with
  |nil=>simp at hy
  |cons b c=>
   have h3:=Lj (f b rfl);rcases Xo.1 hy with rfl|hy
   ·exact h3
   ·exact Lt h3 ((Vl.1 h.ub).1 y hy)
 refine⟨by simpa using h.perm,Uj.2 ⟨h.up,Uk ..,λx hx y hy=>?_⟩,λx hx y hy=>?_,h2,h.ub⟩
 ·simp at hy;subst hy;exact h.low x hx y aq
 ·rcases Xm.1 hx with hx|hx
  ·exact h.low x hx y (by rcases Xm.1 hy with hy|hy <;> simp[hy])
  ·simp at hx;subst hx;rcases Xm.1 hy with hy|hy
   ·exact h1 y hy
   ·exact d y hy
theorem J9.right {l out c e:List yS}(h:J9 l out c (b::e)) (ha:∀a,c.head? =some a→leS b a):J9 l (out++ [b]) c e:=by
 obtain⟨h1,h2⟩:=Vl.1 h.ub;have d:∀y∈c,leS b y:=by
  intro y hy;cases c with
  |nil=>simp at hy
  |cons a c=>
   have h3:=ha a rfl;rcases Xo.1 hy with rfl|hy
   ·exact h3
   ·exact Lt h3 ((Vl.1 h.ua).1 y hy)
 refine⟨?_,Uj.2 ⟨h.up,Uk ..,λx hx y hy=>?_⟩,λx hx y hy=>?_,h.ua,h2⟩
 ·refine List.Perm.trans ?_ h.perm;rw[Yf];exact List.Perm.append_left _ (by simpa using (List.perm_middle (a:=b) (l₁:=c) (l₂:=e)).symm)
 ·simp at hy;subst hy;exact h.low x hx y aq
 ·rcases Xm.1 hx with hx|hx
  ·exact h.low x hx y (by rcases Xm.1 hy with hy|hy <;> simp[hy])
  ·simp at hx;subst hx;rcases Xm.1 hy with hy|hy
   ·exact d y hy
   ·exact h1 y hy
end
section
variable {R:List nQ}{k:List Nat}
def pd (R:List nQ) (k:List Nat) (d p:Nat):List nQ:=match R.getLast? with
 |some q=>if q.1=k then R.dropLast++ [(k,fI q.2 d p)]else R++ [(k,fI [] d p)]
 |none=>[(k,fI [] d p)]
def nO (ts:List Tri):List nQ:=ts.foldl (λR t=>pd R t.1 t.2.1 t.2.2) []
theorem vj (a:List Tri) (t:Tri):nO (a++ [t])=pd (nO a) t.1 t.2.1 t.2.2:=by simp[nO]
theorem Ae {l:List Po}(d p:Nat):pd (R++ [(k,l)]) k d p=R++ [(k,fI l d p)]:=by simp[pd]
theorem DU {d p:Nat}(h:∀q,R.getLast? =some q→q.1≠k):pd R k d p=R++ [(k,fI [] d p)]:=by
 unfold pd
 split
 ·rename_i q a;rw[if_neg (h q a)]
 ·rename_i hn;rw[List.getLast?_eq_none_iff]at hn;subst hn;rfl
theorem y6:∀r:List Tri,(r.reverse.map (·.1)).Pairwise (λa b=>¬b<a)→rn (nO r.reverse) r.reverse
 | [],_=>⟨by simp[nO,tm],by simp[nO],by simp[nO]⟩
 |(k,d,p)::r,h=>by
  rw[List.reverse_cons]at h⊢;rw[Xp,Uj]at h;obtain⟨h1,_,h2⟩:=h;have c:=y6 r h1;rw[vj];generalize r.reverse=ts at*;generalize nO ts=R at*;have t:∀x∈ts.map (·.1),¬k<x:=λx hx=>h2 x hx k aq;rcases X4 R with rfl|⟨B,q,A⟩
  ·have hno:ts.map (·.1)= []:=by
     rcases hm:ts.map (·.1)with _|⟨a,l⟩
     ·first|rfl|exact hm
     ·have:=(c.keys a).2 (by rw[hm];simp);simp at this
   obtain rfl:ts= []:=List.map_eq_nil_iff.1 hno;exact⟨by simp[pd,tm],by simp[pd],λe he=>by simp[pd]at he;subst he;simp[ofK,jI]⟩
  ·obtain rfl:R=B++ [q]:=by simpa using A
   have hr:=c.rise;rw[Xp,tm,Uj]at hr;obtain⟨w,_,j⟩:=hr;have f:q.1∈ts.map (·.1):=(c.keys q.1).1 aq
   by_cases he:q.1=k
   ·obtain⟨s,y⟩:=q;simp only at he f j;subst he;rw[Ae];refine⟨?_,λx=>?_,λe hem=>?_⟩
    ·rw[Xp,tm,Uj];exact⟨w,Uk ..,j⟩
    ·have h3:=c.keys x;simp only[Xp,Xs,Ud,Xm,Vb]at h3⊢;rw[h3];exact⟨.inl,λn=>n.elim id λe=>e ▸ f⟩
    ·rcases Xm.1 hem with hem|hem
     ·have g:s≠e.1:=λn=>ni e.1 (by
       have h4:=j e.1 (Vj hem) s aq
       rwa [n]at h4)
      rw[nU g];exact c.vals e (Yy _ hem)
     ·simp at hem;subst hem;have h5:=c.vals (s,y) aq;simp only at h5⊢;rw[mG,mT,←h5]
   ·have i:q.1<k:=v7 (t _ f) (λe=>he e.symm);have m:k ∉ ts.map (·.1):=λhm=>by
     have h3:=(c.keys k).2 hm;rw[Xp,Xm]at h3;rcases h3 with h3|h3
     ·exact ni k (zw (j k h3 q.1 aq) i)
     ·simp at h3;exact he h3.symm
    rw[DU (λz u=>by simp at u;subst u;exact he)];refine⟨?_,λx=>?_,λe hem=>?_⟩
    ·rw[Xp,tm,Uj];refine⟨c.rise,Uk ..,λa ha b v=>?_⟩;simp at v;subst v;rw[Xp,Xm]at ha;rcases ha with ha|ha
     ·exact zw (j a ha q.1 aq) i
     ·simp at ha;subst ha;exact i
    ·have h3:=c.keys x;rw[Xp,Xm,h3];simp
    ·rcases Xm.1 hem with hem|hem
     ·have g:k≠e.1:=λn=>m (n ▸(c.keys e.1).1 (Vj hem));rw[nU g];exact c.vals e hem
     ·simp at hem;subst hem;simp only;rw[mG,mT,tQ m];all_goals rfl
theorem Iz {c:List Tri}(h:(c.map (·.1)).Pairwise (λa b=>¬b<a)):rn (nO c) c:=by
 have:=y6 c.reverse (by rwa [S0])
 rwa [S0]at this
theorem GH {a b:Nat×Nat}(h:¬ltP a b) (c:¬ltP b a):a=b:=by
 unfold ltP at h c;exact Prod.ext a8 a8
theorem Tq (a:List Tri):rn (eE a) a:=⟨by rw[xj];exact kN _,λk=>by rw[xj,lJ],λe he=>by
 obtain⟨k,_,rfl⟩:=Xt.1 he;rfl⟩
end
section
variable {H:dD}{g:PG}{l lp:List PG}{r:SV}
def eRw:Enc (Nat×ByteArray×SV):=⟨λp=>[.int .i64 ((p.1:Nat):Int),.string p.2.1,p.2.2.val],3,true,λ_=>rfl,λp v h=>by simp at h;rcases h with rfl|rfl|rfl <;> rfl,ae,λh=>aK,ae⟩
instance {p:Nat×ByteArray×SV}:kV eRw p (.agg [.int .i64 ((p.1:Nat):Int),.string p.2.1,p.2.2.val].toArray):=⟨rfl⟩
instance {f:Nat}{s:ByteArray}:gP eRw (.agg [.int .i64 ((f:Nat):Int),.string s,.slice none 0 0].toArray) (f,s,SV.nil):=⟨rfl⟩
instance {d:Nat}:gP ePo (.agg [.int .i64 ((d:Nat):Int),.slice none 0 0].toArray) (d,SV.nil):=⟨rfl⟩
structure RG where
 f:Nat
 e:EG
def rwV (z:RG):Nat×ByteArray×SV:=(z.f,z.e.key,z.e.s)
def rgH (z:RG):dD:=egH z.e
theorem Ot {l:List RG}{z:RG}:dH (Cl rgH (l++ [z])::H) (Row z.e.s ePo (z.e.l.map pgV)::Cl pgH z.e.l::Cl rgH l::H):=by
 have h:=lY (f:=rgH) (l:=l++ [z]) (i:=l.length) (x:=z) (H:=H) aq;rw[show(l++ [z]).take l.length=l from aq]at h;exact h.trans (dH.keep (dH.keep (dH.keep (dH.drop dH.refl))))
theorem Oq {l:List RG}(z:RG):dH (Row z.e.s ePo (z.e.l.map pgV)::Cl pgH z.e.l::Cl rgH l::H) (Cl rgH (l++ [z])::H):=o4 (f:=rgH) z
theorem OS {p:PG}:dH (Cl pgH (l++ [p])::H) (Row p.s eI (dT p.pos)::Cl pgH l::H):=by
 have h:=lY (f:=pgH) (l:=l++ [p]) (i:=l.length) (x:=p) (H:=H) aq;rw[show(l++ [p]).take l.length=l from aq]at h;exact h.trans (dH.keep (dH.keep (dH.drop dH.refl)))
theorem Kp {zs cs a:List RG}{z:RG}(h:cs=a++ [z]):dH (Cl rgH (zs++cs)::Row r eRw ((zs++cs).map rwV)::H) (Row z.e.s ePo (z.e.l.map pgV)::Cl pgH z.e.l::Cl rgH (zs++a)::Row r eRw ((zs++(a++ [z])).map rwV)::H):=by
 subst h;rw[←Yf];exact Ot
theorem KO (h:l=lp++ [g]):dH (Cl pgH l::Row r ePo (l.map pgV)::H) (Row g.s eI (dT g.pos)::Cl pgH lp::Row r ePo ((lp++ [g]).map pgV)::H):=by
 subst h;exact OS
theorem SW {d p:Nat}(h:g.d=d):fI ((lp++ [g]).map pgP) d p=lp.map pgP++ [(d,g.pos++ [p])]:=by simp[fI,pgP,h]
theorem SX {d p:Nat}(h:∀c,l.getLast? =some c→c.d≠d):fI (l.map pgP) d p=l.map pgP++ [(d, [p])]:=
 Af λr hr=>by
  rw[List.getLast?_map]at hr;cases hc:l.getLast? with
  |none=>rw[hc]at hr;cases hr
  |some c=>rw[hc]at hr;obtain rfl:=Xk hr;exact h c hc
def DB (R:List nQ):Nat:=(R.map λr=>r.2.length).sum
def Br (R:List nQ):Nat:=(R.map λr=>ec r.2).sum
theorem J6 (l:List Po) (d p:Nat):(fI l d p).length≤l.length+1∧ec (fI l d p)=ec l+1:=by
 rcases X4 l with rfl|⟨a,q,b⟩
 ·simp[fI,ec]
 ·obtain rfl:l=a++ [q]:=by simpa using b
  by_cases he:q.1=d
  ·rw[show fI (a++ [q]) d p=a++ [(d,q.2++ [p])]from by simp[fI,he]];simp[ec];omega
  ·rw[show fI (a++ [q]) d p=a++ [q]++ [(d, [p])]from by simp[fI,he]];simp[ec];omega
theorem N0 (R:List nQ) (k:List Nat) (d p:Nat):(pd R k d p).length≤R.length+1∧DB (pd R k d p)≤DB R+1∧Br (pd R k d p)=Br R+1:=by
 rcases X4 R with rfl|⟨a,q,b⟩
 ·simp[pd,DB,Br,fI,ec]
 ·obtain rfl:R=a++ [q]:=by simpa using b
  by_cases he:q.1=k
  ·rw[show pd (a++ [q]) k d p=a++ [(k,fI q.2 d p)]from by simp[pd,he]];have:=J6 q.2 d p;simp[DB,Br];omega
  ·rw[show pd (a++ [q]) k d p=a++ [q]++ [(k,fI [] d p)]from by simp[pd,he]];simp[DB,Br,fI,ec];omega
theorem M0 (a:List Tri):(nO a).length≤a.length∧DB (nO a)≤a.length∧Br (nO a)=a.length:=by
 have b:∀(r:List Tri),(nO r.reverse).length≤r.length∧DB (nO r.reverse)≤r.length∧Br (nO r.reverse)=r.length:=by
  intro r
  induction r with
  |nil=>simp[nO,DB,Br]
  |cons t r ih=>
   rw[List.reverse_cons,vj,Yb];have:=N0 (nO r.reverse) t.1 t.2.1 t.2.2;omega
 have:=b a.reverse
 rwa [S0,List.length_reverse]at this
theorem AV:∀{l:List Nat}{x:Nat},x∈l→x≤l.sum
 |y::l,x,h=>by
  rcases Xo.1 h with rfl|h
  ·simp
  ·have:=AV h;simp only[Vv];omega
theorem Gf {α:Type}{l:List α}(h:l≠ []):∃a x,l=a++ [x]:=by
 rcases X4 l with rfl|⟨a,x,hx⟩
 ·exact absurd rfl h
 ·exact⟨a,x,by simpa using hx⟩
end
section
variable {H:dD}{i:Nat}{z:RG}{zs:List RG}
theorem Gj (h:zs[i]? =some z):dH (Cl rgH zs::H) (Row z.e.s ePo (z.e.l.map pgV)::Cl pgH z.e.l::Cl rgH (zs.take i)::Cl rgH (zs.drop (i+1))::H):=lY (f:=rgH) h
theorem WG {R:dD}(hr:nR H (Cl rgH zs) R) (he:zs[i]? =some z):Sl H z.e.s ePo (z.e.l.map pgV):=
 ee (gJ hr (Gj he)) inferInstance
theorem WH {R:dD}(hr:nR H (Cl rgH zs) R) (he:zs[i]? =some z):su H (z.e.l.map pgV) (z.e.l.map pgP):=by
 refine⟨aq,λj p q hp a=>?_⟩;rw[Xd]at hp a;cases hj:z.e.l[j]? with
 |none=>rw[hj]at hp;cases hp
 |some x=>
  rw[hj]at hp a;obtain rfl:=Xk hp;obtain rfl:=Xk a;exact⟨rfl,show Sl H x.s eI (dT x.pos)from ee (gJ hr ((Gj he).trans (dH.drop (rD hj)))) inferInstance⟩
theorem su.less {H':dD}{l:List (Nat×SV)}{ps:List Po}(h:su H l ps) (hs:dH H' H):su H' l ps:=⟨h.1,λi p q hp a=>by
 obtain⟨h1,h2⟩:=h.2 i p q hp a;exact⟨h1,ee hs h2⟩⟩
end
def oe (fs:List FV):Nat→List Nat→Option (List Val×Nat)
 | 0,_=>some ([],0)
 |n+1,l=>match iH (fs.length-1) l with
  | .error _=>none
  | .ok (f,m)=>match mq 4096 (l.drop m)with
   | .error _=>none
   | .ok (q,c)=>match oe fs n (l.drop (m+c))with
        |none=>none
        |some (r,e)=>some ((((fs[f]?).map (·.name)).getD ByteArray.empty,eG q)::r,m+c+e)
def nd (fs:List FV):List Int→List Nat→Option (List Doc×Nat)
 | [],_=>some ([],0)
 |d::r,l=>match iH 64 l with
  | .error _=>none
  | .ok (n,m)=>match oe fs n (l.drop m)with
   |none=>none
   |some (vs,c)=>match nd fs r (l.drop (m+c))with
        |none=>none
        |some (ds,e)=>some ((d,vs)::ds,m+c+e)
def nB (fs:List FV) (ids body:List Nat):Option (List Doc):=match gF 4096 ids with
 | .error _=>none
 | .ok (l,m)=>if m<ids.length then none else match nd fs l body with
  |none=>none
  |some (ds,c)=>if c<body.length then none else some ds
def vX {α:Type}(zs:List α) (a:Nat):Option (List α×Nat)→Option (List α×Nat)
 |none=>none
 |some (r,e)=>some (zs++r,a+e)
theorem GW {α:Type}(o:Option (List α×Nat)):vX [] 0 o=o:=by
 cases o with
 |none=>rfl
 |some p=>simp[vX]
structure DG where
 d:Int
 s:SV
 vs:List Val
def dgV (z:DG):Int×SV:=(z.d,z.s)
def dgD (z:DG):Doc:=(z.d,z.vs)
def dgH (z:DG):dD:= [Row z.s eVl z.vs]
theorem Hg {l:List DG}(z:DG) {H:dD}:dH (Row z.s eVl z.vs::Cl dgH l::H) (Cl dgH (l++ [z])::H):=o4 (f:=dgH) z
theorem yr {H R:dD}{zs:List DG}(hr:nR H (Cl dgH zs) R):gK H (zs.map dgV) (zs.map dgD):=by
 refine⟨aq,λi p q hp a=>?_⟩;rw[Xd]at hp a;cases hi:zs[i]? with
 |none=>rw[hi]at hp;cases hp
 |some z=>
  rw[hi]at hp a;obtain rfl:=Xk hp;obtain rfl:=Xk a;exact⟨rfl,show Sl H z.s eVl z.vs from ee (gJ hr (lY (f:=dgH) hi)) (inferInstanceAs (Sl (Row z.s eVl z.vs::_) z.s eVl z.vs))⟩
end Go.Sx
