import Derived.Test.YtjhdcheijnegnaaGreatDoorQ33
import Derived.Test.YtjhdcheijnegnaaGreatDoorQ34
import Derived.Test.YtjhdcheijnegnaaGreatDoorQ32
import Derived.Test.YtjhdcheijnegnaaGreatDoorQ21
set_option linter.all false
set_option maxHeartbeats 0
namespace Go.Sx
open Go Go.Proofs
set_option maxRecDepth 100000
def ff (dl:List Int) (d:Doc):Bool:=decide (d.1∈dl)
def e8 (dl:List Int) (ds:List Doc):List Doc:=ds.filter λd=>!ff dl d
theorem nW {dl:List Int}{d:Doc}{ds:List Doc}:e8 dl (d::ds)=if ff dl d=true then e8 dl ds else d::e8 dl ds:=by
 unfold e8;rw[List.filter_cons]
 cases ff dl d <;> rfl
theorem uU {dl:List Int}{ds:List Doc}{k:Nat}{d:Doc}(h:ds[k]? =some d):e8 dl (ds.drop k)=if ff dl d=true then e8 dl (ds.drop (k+1))else d::e8 dl (ds.drop (k+1)):=by
 rw[fE h,nW]
theorem nx (dl:List Int) (ds:List Doc):(e8 dl ds).length≤ds.length:=List.length_filter_le _ _
def Hf (dl:List Int) (ds:List Doc) (ws:List Nat):Prop:=∀(j:Nat) (d:Doc),ds[j]? =some d→jZ ws j=ff dl d
theorem CF {dl:List Int}{ds:List Doc}{ws:List Nat}(hw:Hf dl ds ws):∀(m k:Nat),ds.length-k≤m→
 (∀d,((List.range ds.length).drop k).find? (λd=>!jZ ws d)=some d→∃x,ds[d]? =some x∧k≤d∧jZ ws d=false∧e8 dl (ds.drop k)=x::e8 dl (ds.drop (d+1)))∧
 (((List.range ds.length).drop k).find? (λd=>!jZ ws d)=none→e8 dl (ds.drop k)= []):=by
 intro m
 induction m with
 |zero=>
  intro k hk
  have h1:(List.range ds.length).drop k= []:=Uu (cw)
  have h2:ds.drop k= []:=Uu (a8)
  rw[h1,h2]
  exact⟨λd h=>(aU),λ_=>rfl⟩
 |succ m ih=>
  intro k hk
  by_cases hkl:k<ds.length
  ·obtain⟨x,hx⟩:∃x,ds[k]? =some x:=⟨_,Yi hkl⟩
   obtain⟨i1,i2⟩:=ih (k+1) (a8)
   have hb:=hw k x hx
   rw[vg hkl,uU hx]
   cases hd:ff dl x with
   |true=>
    rw[hd]at hb
    simp only[hb,S3,Xp,if_false,if_true]
    exact⟨λd h=>by obtain⟨y,a,b,c,e⟩:=i1 d h;exact⟨y,a,a8,c,e⟩,i2⟩
   |false=>
    rw[hd]at hb
    simp only[hb,V1,Xp,if_false,if_true]
    exact⟨λd h=>by obtain rfl:=Xo h;exact⟨x,hx,Xj _,hb,rfl⟩,λh=>aU⟩
  ·have h1:(List.range ds.length).drop k= []:=Uu (cw)
   have h2:ds.drop k= []:=Uu (a8)
   rw[h1,h2]
   exact⟨λd h=>(aU),λ_=>rfl⟩
theorem uV {l:List Nat}{i x:Nat}:(cP l).set i (x:Int)=cP (l.set i x):=by rw[cP,cP,Q6]
def nI (fs:List FV) (S:List Nat) (d:Doc):List Nat:=S.mapIdx λj s=>s+(dB fs j d.2).length
def oh (fs:List FV) (S:List Nat) (ds:List Doc):List Nat:=ds.foldl (nI fs) S
theorem tV (fs:List FV) (S:List Nat) (d:Doc):(nI fs S d).length=S.length:=List.length_mapIdx
theorem tW (fs:List FV):∀(ds:List Doc) (S:List Nat),(oh fs S ds).length=S.length
 | [],_=>rfl
 |d::ds,S=>by rw[oh,List.foldl_cons];exact(tW fs ds _).trans (tV ..)
theorem vG (fs:List FV) (S:List Nat) (d:Doc) (ds:List Doc):oh fs S (d::ds)=oh fs (nI fs S d) ds:=rfl
theorem GW (fs:List FV) (S:List Nat) (d:Doc) (j:Nat):(nI fs S d)[j]? =(S[j]?).map (· +(dB fs j d.2).length):=by
 rw[nI,V4]
def ig (fs:List FV) (S:List Nat) (d:Doc) (f:Nat):List Nat:=S.mapIdx λj s=>if j<f then s+(dB fs j d.2).length else s
theorem qx (fs:List FV) (S:List Nat) (d:Doc) (f:Nat):(ig fs S d f).length=S.length:=List.length_mapIdx
theorem B8 (fs:List FV) (S:List Nat) (d:Doc):ig fs S d 0=S:=by
 apply Vu
 intro j
 rw[ig,V4]
 cases S[j]? <;> simp
theorem uL (fs:List FV) (S:List Nat) (d:Doc):ig fs S d S.length=nI fs S d:=by
 apply Vu
 intro j
 rw[ig,nI,V4,V4]
 by_cases h:j<S.length
 ·rw[Yi h];simp[h]
 ·rw[Ve (a8)];all_goals rfl
theorem uK {fs:List FV}{S:List Nat}{d:Doc}{f s:Nat}(h:S[f]? =some s):(ig fs S d f)[f]? =some s:=by
 rw[ig,V4,h];simp
theorem sX {fs:List FV}{S:List Nat}{d:Doc}{f s:Nat}(h:S[f]? =some s):(ig fs S d f).set f (s+(dB fs f d.2).length)=ig fs S d (f+1):=by
 apply Vu
 intro j
 have hl:=qx fs S d f
 have hf:=(Yk.1 h).1
 by_cases hj:f=j
 ·subst hj
  rw[Uz (a8),ig,V4,h];simp
 ·rw[V2 hj,ig,ig,V4,V4]
  cases S[j]? with
  |none=>rfl
  |some q=>
   simp only[Vd]
   congr 1
   by_cases h1:j<f
   ·rw[if_pos h1,if_pos (a8)]
   ·rw[if_neg h1,if_neg (a8)]
def kI (S:List Nat) (M:Nat):Prop:=∀s∈S,s≤M
theorem rV {fs:List FV}{S:List Nat}{M:Nat}{d:Doc}(h:kI S M):kI (nI fs S d) (M+vsz d.2):=λs hs=>by
 obtain⟨j,hj⟩:=Uf hs
 rw[GW]at hj
 cases hS:S[j]? with
 |none=>rw[hS]at hj;cases hj
 |some q=>
  rw[hS]at hj
  obtain rfl:=Xo hj
  have h1:=h q (Yj hS)
  have h2:=jG fs j d.2
  show q+(dB fs j d.2).length≤_
  omega
theorem BP {fs:List FV}:∀{ds:List Doc}{S:List Nat}{M:Nat},kI S M→kI (oh fs S ds) (M+dsz ds)
 | [],S,M,h=>h
 |d::ds,S,M,h=>by
  have:=BP (fs:=fs) (ds:=ds) (rV (fs:=fs) (d:=d) h)
  rw[vG,show dsz (d::ds)=vsz d.2+dsz ds by simp[dsz],←Vz]
  exact this
theorem pT (dl:List Int):∀ds:List Doc,dsz (e8 dl ds)≤dsz ds
 | []=>Xj _
 |d::ds=>by
  have h:=pT dl ds
  rw[nW]
  have e:∀l:List Doc,dsz (d::l)=vsz d.2+dsz l:=λl=>by simp[dsz]
  split
  ·rw[e];omega
  ·rw[e,e];omega
def ug (fs:List FV) (f:Nat) (s:ByteArray) (d:Doc):Bool:=(dB fs f d.2).any λt=>decide (dQ t.text=s)
theorem Aq (l:List Po) (d p k:Nat):k∈(iI l d p).map (·.1)↔k=d∨k∈l.map (·.1):=by
 unfold iI
 cases hl:l.getLast? with
 |none=>
  rw[List.getLast?_eq_none_iff]at hl
  subst hl;simp
 |some q=>
  obtain⟨m,rfl⟩:∃m,l=m++ [q]:=List.getLast?_eq_some_iff.1 hl
  simp only[List.dropLast_concat]
  split
  ·rename_i h
   simp only[Va,Xl,Xn,Ul,Ui]
   constructor
   ·rintro(h1|h1)
    ·exact .inr (.inl h1)
    ·exact .inl h1
   ·rintro(h1|h1|h1)
    ·exact .inr h1
    ·exact .inl h1
    ·exact .inr (h1.trans h)
  ·simp only[Va,Xl,Xn,Ul,Ui]
   exact Or.comm
theorem uX (k:Nat):∀r:List (Nat×Nat),k∈(iD r.reverse).map (·.1)↔k∈r.map (·.1)
 | []=>by simp[iD]
 |(d,p)::r=>by rw[List.reverse_cons,lS,Aq,uX k r,Xn,Xr]
theorem G3 (k:Nat) (ts:List (Nat×Nat)):k∈(iD ts).map (·.1)↔k∈ts.map (·.1):=by
 have:=uX k ts.reverse
 rw[List.reverse_reverse]at this
 rw[this,List.map_reverse,List.mem_reverse]
theorem DM:∀{a b:List Nat},a.Pairwise (· < ·)→b.Pairwise (· < ·)→(∀x,x∈a↔x∈b)→a=b
 | [], [],_,_,_=>rfl
 | [],y::b,_,_,h=>absurd ((h y).2 Yz) (ak)
 |x::a, [],_,_,h=>absurd ((h x).1 Yz) (ak)
 |x::a,y::b,ha,hb,h=>by
  obtain⟨ha1,ha2⟩:=Uk.1 ha
  obtain⟨hb1,hb2⟩:=Uk.1 hb
  have hxy:x=y:=by
   have h1:=(h x).1 Yz
   have h2:=(h y).2 Yz
   rcases Xr.1 h1 with h1|h1
   ·exact h1
   ·rcases Xr.1 h2 with h2|h2
    ·exact h2.symm
    ·have:=hb1 x h1;have:=ha1 y h2;omega
  subst hxy
  congr 1
  refine DM ha2 hb2 λz=>⟨λhz=>?_,λhz=>?_⟩
  ·have hlt:=ha1 z hz
   rcases Xr.1 ((h z).1 (Xa _ hz))with h1|h1
   ·omega
   ·exact h1
  ·have hlt:=hb1 z hz
   rcases Xr.1 ((h z).2 (Xa _ hz))with h1|h1
   ·omega
   ·exact h1
theorem FJ {f:Nat}{a b:ByteArray}(h:cF (n7 f a)=cF (n7 f b)):a=b:=by
 rw[jC,jC]at h
 exact iw.1 (List.cons.inj h).2
theorem yC {fs:List FV}{f:Nat}:∀{l:List Doc}{k j:Nat}{d:Doc}{u:Tok},l[j]? =some d→u∈dB fs f d.2→(cF (n7 f (dQ u.text)),k+j,u.pos)∈fF fs f k l
 | [],_,j,_,_,h,_=>aI
 |e::l,k,0,d,u,h,hu=>by
  simp at h;subst h
  rw[fF,Xl]
  exact .inl (Xw.2 ⟨u,hu,rfl⟩)
 |e::l,k,j+1,d,u,h,hu=>by
  rw[Xc]at h
  rw[fF,Xl]
  have:=yC (k:=k+1) h hu
  rw[show k+1+j=k+(j+1)from a8]at this
  exact .inr this
theorem Fb {fs:List FV}{ds:List Doc}{f:Nat}{s:ByteArray}(hf:f<fs.length) (hfl:fs.length≤256) (k:Nat):k∈(ofK (eQ fs ds) (f%256::cF s)).map (·.1)↔∃d,ds[k]? =some d∧ug fs f s d=true:=by
 rw[←jC]
 unfold ofK
 rw[Ut,Xw]
 constructor
 ·rintro⟨t,ht,rfl⟩
  obtain⟨h1,h2⟩:=Q9.1 ht
  have h2:=Yt h2
  obtain⟨g,hg,h3⟩:=X7.1 h1
  rw[List.mem_range]at hg
  obtain⟨j,d,u,hj,hu,rfl⟩:=lZ h3
  have hgf:g=f:=by
   simp only at h2
   rw[jC,jC]at h2
   have:=(List.cons.inj h2).1
   omega
  subst hgf
  refine⟨d,?_,?_⟩
  ·simpa using hj
  ·rw[ug,List.any_eq_true]
   exact⟨u,hu,Ys (FJ h2)⟩
 ·rintro⟨d,hd,hh⟩
  rw[ug,List.any_eq_true]at hh
  obtain⟨u,hu,he⟩:=hh
  have he:=Yt he
  refine⟨(cF (n7 f (dQ u.text)),k,u.pos),Q9.2 ⟨X7.2 ⟨f,List.mem_range.2 hf,?_⟩,Ys (by rw[he])⟩,rfl⟩
  have:=yC (k:=0) hd hu
  rwa [Vf]at this
def FZ (fs:List FV) (f:Nat) (s:ByteArray) (ds:List Doc) (k:Nat):Bool:=match ds[k]? with
 |some d=>ug fs f s d
 |none=>false
theorem Ai {fs:List FV}{ds:List Doc}{f:Nat}{s:ByteArray}(hok:iU fs ds) (hf:f<fs.length) (hfl:fs.length≤256):(m6 fs ds f s).map (·.1)=(List.range ds.length).filter (FZ fs f s ds):=by
 have hg:gJ 0 (m6 fs ds f s):=(lR hok.goodT).1
 refine DM ?_ (List.Pairwise.filter _ List.pairwise_lt_range) λk=>?_
 ·rw[R4]
  intro i j hi hj hij
  rw[Yh]at hi hj
  rw[List.getElem_map,List.getElem_map]
  exact JZ hg i j _ _ hij (Yi hi) (Yi hj)
 ·rw[m6,G3,Fb hf hfl,Q9,List.mem_range,FZ]
  constructor
  ·rintro⟨d,h1,h2⟩
   rw[h1]
   exact⟨(Yk.1 h1).1,h2⟩
  ·rintro⟨h1,h2⟩
   rw[Yi h1]at h2
   exact⟨_,Yi h1,h2⟩
def dfL (fs:List FV) (dl:List Int) (f:Nat) (s:ByteArray) (ds:List Doc):Nat:=(e8 dl ds).countP (ug fs f s)
theorem Dd {fs:List FV}{f:Nat}{s:ByteArray}{ds:List Doc}{dl:List Int}{p:Nat→Bool}(hp:∀(j:Nat) (d:Doc),ds[j]? =some d→p j= !ff dl d):∀(m k:Nat),ds.length-k≤m→((((List.range ds.length).drop k).filter (FZ fs f s ds)).countP p)=(e8 dl (ds.drop k)).countP (ug fs f s):=by
 intro m
 induction m with
 |zero=>
  intro k hk
  rw[Uu (cw),Uu (a8)];all_goals rfl
 |succ m ih=>
  intro k hk
  by_cases hkl:k<ds.length
  ·obtain⟨x,hx⟩:∃x,ds[k]? =some x:=⟨_,Yi hkl⟩
   have i1:=ih (k+1) (a8)
   rw[fE (l:=List.range ds.length) (i:=k) (x:=k) (by rw[X3 hkl]),uU hx,List.filter_cons]
   have h1:FZ fs f s ds k=ug fs f s x:=by rw[FZ,hx]
   have h2:=hp k x hx
   rw[h1]
   cases hh:ug fs f s x <;> cases hd:ff dl x <;> rw[hd]at h2 <;> simp[List.countP_cons,h2,hh,i1]
  ·rw[Uu (cw),Uu (a8)];all_goals rfl
theorem GF {fs:List FV}{ds:List Doc}{dl:List Int}{f:Nat}{s:ByteArray}{p:Nat→Bool}(hok:iU fs ds) (hf:f<fs.length) (hfl:fs.length≤256) (hp:∀(j:Nat) (d:Doc),ds[j]? =some d→p j= !ff dl d):(m6 fs ds f s).countP (λq=>p q.1)=dfL fs dl f s ds:=by
 have h1:(m6 fs ds f s).countP (λq=>p q.1)=((m6 fs ds f s).map (·.1)).countP p:=by rw[List.countP_map];all_goals rfl
 have h2:=Dd (fs:=fs) (f:=f) (s:=s) hp ds.length 0 (a8)
 rw[Vi,Vi]at h2
 rw[h1,Ai hok hf hfl,h2];all_goals rfl
open Tryz
structure CaA where
 fv:SV
 dv:SV
 cv:SV
 xv:SV
 f:Int
 s:ByteArray
abbrev caV (a:CaA):List Value:= [a.fv.val,a.dv.val,a.cv.val,a.xv.val,.int .i64 a.f,.string a.s]
theorem Ny {G:cJ}{H:cG}{a:CaA}{dl:List Int}{i:Int} [hx:Sl H a.xv eI dl] (hn:dl.length≤1000000000):SC G prog 52 [.agg (caV a).toArray,.int .i64 i] H (λv H'=>v=.bool (decide (i∈dl))∧H'=H):=by
 refine sWk func52 ?_
 refine ws_ (wr_ (bxx (k:=λb2=>?_)))
 refine e_ asn (k:=on_ (qn_ (ws_ (ws_ (wr_ (e_ fla (k:=e_ ldv (k:=e_ lnn (k:=e_ mv (k:=on_ (qn_ (wb_ (wl2_ (Nat) (λy=>y≤dl.length∧i ∉ dl.take y) (λy=>[(10,iN y)]) [(1,_),(8,_),(9,_)] (λy=>[]) _ (λy=>dl.length-y) (0) (h0:=?_) (k:=?_))))))))))))))
 ·try dsimp only
  exact⟨Yl _,ak⟩
 rintro j ⟨hj,hno⟩
 try dsimp only[Yd,Ye]at*
 refine ws_ (wr_ (e_ ilt (k:=on_ (qn_ (ws_ (wi_ (k:=λh1=>?_) (m:=λh1=>?_)))))))
 ·obtain⟨x,hxj⟩:=gE dl j
  have htk:=cL hxj
  refine wk_ (qn_ (ws_ (wb_ (ws_ (wr_ (e_ ixa (k:=e_ (lel (hy:=hxj)) (k:=e_ asn (k:=on_ (qn_ (ws_ (wr_ (e_ mv (k:=?_))))))))))))))
  refine e_ mv (k:=e_ ieq (k:=on_ (qn_ (wi_ (k:=λh2=>?_) (m:=λh2=>?_)))))
  ·have hin:i∈dl:=by have h9:=h2;rw[←h9];exact Yj hxj
   refine ws_ (wr_ (e_ asn (k:=on_ (qn_ (wt_ (br_ (qr_ (lr_ (br_ (qr_ (rT (k:=?_))))))))))))
   exact⟨_,hsb,by rw[Ys hin];all_goals rfl,rfl⟩
  have hne:¬x=i:=aL
  refine wk_ (bn_ (qn_ (wr_ (e_ iad (k:=e_ mv (k:=on_ (?_)))))))
  refine ln_ (j+1) (k:=?_)
  try dsimp only
  exact⟨a8,by rw[htk];simp only[Xl,Ui];rintro(h|h);exact hno h;exact hne h.symm⟩
 obtain rfl:j=dl.length:=a8
 rw[Xk]at hno
 refine we_ (qe_ (le_ (bh_ (qn_ (ws_ (wr_ (e_ asn (k:=on_ (qn_ (wt_ (rT (k:=?_))))))))))))
 exact⟨_,hsb,by rw[Yr hno];all_goals rfl,rfl⟩
def idL {α:Type}:Nat→List α→List (Int×α)
 |_, []=>[]
 |k,x::l=>(((3*k:Nat):Int),x)::idL (k+1) l
theorem ya {α:Type}(x:α):∀(l:List α) (k:Nat),idL k (l++ [x])=idL k l++ [(((3*(k+l.length):Nat):Int),x)]
 | [],k=>by simp[idL]
 |y::l,k=>by rw[Yd,idL,ya x l (k+1),idL,Yd,Yb,show k+1+l.length=k+(l.length+1)from a8]
theorem mJ {α:Type}:∀(l:List α) (k:Nat),(idL k l).length=l.length
 | [],_=>rfl
 |_::l,k=>by rw[idL,Yb,Yb,mJ l (k+1)]
theorem Bl {α:Type}:∀(l:List α) (k i:Nat),(idL k l)[i]? =(l[i]?).map λx=>(((3*(k+i):Nat):Int),x)
 | [],_,_=>rfl
 |x::l,k,0=>by simp[idL]
 |x::l,k,i+1=>by rw[idL,Xc,Xc,Bl l (k+1) i,show k+1+i=k+(i+1)from a8]
def uk (H:cG) (svs:List SV) (vss:List (List Val)):Prop:=svs.length=vss.length∧∀(i:Nat) (s:SV) (vs:List Val),svs[i]? =some s→vss[i]? =some vs→Sl H s eVl vs
theorem uk.less {H H':cG}{svs:List SV}{vss:List (List Val)}(hs:cH H' H) (h:uk H svs vss):uk H' svs vss:=⟨h.1,λi s vs h1 h2=>dj hs (h.2 i s vs h1 h2)⟩
theorem IM {H:cG}{svs:List SV}{vss:List (List Val)}(h:uk H svs vss):ew H (idL 0 svs) (idL 0 vss):=by
 refine⟨by rw[mJ,mJ,h.1],λi p q hp hq=>?_⟩
 rw[Bl]at hp hq
 cases h1:svs[i]? with
 |none=>rw[h1]at hp;cases hp
 |some s=>
  cases h2:vss[i]? with
  |none=>rw[h2]at hq;cases hq
  |some vs=>
   rw[h1]at hp;rw[h2]at hq
   obtain rfl:=Xo hp
   obtain rfl:=Xo hq
   exact⟨rfl,h.2 i s vs h1 h2⟩
theorem ew.part {H:cG}{l:List (Int×SV)}{ds:List Doc}(h:ew H l ds) (a b:Nat):ew H ((l.take b).drop a) ((ds.take b).drop a):=by
 have hl:=h.1
 refine⟨by simp[hl],λi p q hp hq=>?_⟩
 rw[Xh]at hp hq
 rw[Q7]at hp hq
 split at hp
 ·rw[if_pos (aX)]at hq
  exact h.2 _ p q hp hq
 ·cases hp
theorem HU {G:cJ}{H:cG}{a:CaA}{svs:List SV} [hd:Sl H a.dv eSV svs] (hn:svs.length≤1000000):SC G prog 23 [.agg (caV a).toArray] H (λv H'=>∃u:SV,v=u.val∧H'=Row u eD (idL 0 svs)::H):=by
 refine sWk func23 ?_
 refine ws_ (wr_ (bxx (k:=λb1=>?_)))
 refine e_ asn (k:=on_ (qn_ (ws_ (wr_ (e_ asn (k:=on_ (qn_ (ws_ (ws_ (wr_ (?_)))))))))))
 refine eN (cH.nilRow (e:=eD) cH.refl) ?_
 rw[show Row SV.nil eD ([]:List (Int×SV))=Row SV.nil eD (idL 0 (svs.take 0))from rfl]
 refine e_ fla (k:=e_ ldv (k:=e_ lnn (k:=e_ mv (k:=on_ (qn_ (wb_ (wl2_ (Nat×SV) (λy=>y.1≤svs.length) (λy=>[(3,y.2.val),(9,iN y.1)]) [(7,_),(8,_)] (λy=>[Row y.2 eD (idL 0 (svs.take y.1))]) _ (λy=>svs.length-y.1) ((0,SV.nil)) (h0:=?_) (k:=?_))))))))
 ·try dsimp only
  exact Yl _
 rintro⟨i,u⟩ hi
 try dsimp only[Yd,Ye]at*
 refine ws_ (wr_ (e_ ilt (k:=on_ (qn_ (ws_ (wi_ (k:=λh1=>?_) (m:=λh1=>?_)))))))
 ·obtain⟨s,hs⟩:=gE svs i
  have htl:(idL 0 (svs.take i)).length=i:=by rw[mJ,Yg];omega
  have hstep:idL 0 (svs.take i)++ [(((3*i:Nat):Int),s)]=idL 0 (svs.take (i+1)):=by
   rw[cL hs,ya,Yg,Vk (a8),Vf]
  refine wk_ (qn_ (ws_ (wb_ (ws_ (wr_ (e_ mv (k:=e_ ixa (k:=e_ (lel (hy:=hs)) (k:=e_ asn (k:=e_ asn (k:=on_ (qn_ (wr_ (?_))))))))))))))
  refine e_ mv (k:=e_ mv (k:=?_))
  refine e_ (evq iml (congrArg (Value.int .i64) (show _=((3*i:Nat):Int)from a8))) (k:=?_)
  refine e_ mv (k:=e_ (bld [(0,_),(1,_)]) (k:=fX eD (k:=λs19=>?_)))
  refine app (k:=λs20=>?_)
  rw[hstep]
  refine e_ asn (k:=on_ (bn_ (qn_ (wr_ (e_ iad (k:=e_ mv (k:=on_ (?_))))))))
  refine ln_ ((i+1,s20)) (k:=?_)
  try dsimp only
  omega
 obtain rfl:i=svs.length:=a8
 rw[Xk]
 refine we_ (qe_ (le_ (bh_ (qn_ (ws_ (wr_ (e_ mv (k:=e_ asn (k:=on_ (qn_ (wt_ (rT (k:=?_)))))))))))))
 exact⟨_,hsb,u,rfl,rfl⟩
def i5 (dl:List Int):Nat→List Doc→List Nat
 |_, []=>[]
 |k,d::r=>if ff dl d=true then k::i5 dl (k+1) r else i5 dl (k+1) r
theorem uZ (dl:List Int) (d:Doc):∀(l:List Doc) (k:Nat),i5 dl k (l++ [d])=i5 dl k l++(if ff dl d=true then [k+l.length]else [])
 | [],k=>by simp[i5]
 |e::l,k=>by
  rw[Yd,i5,i5,uZ dl d l (k+1),Yb,show k+1+l.length=k+(l.length+1)from a8]
  split <;> simp
theorem pL {dl:List Int}:∀{l:List Doc}{k j:Nat},j∈i5 dl k l↔k≤j∧∃d,l[j-k]? =some d∧ff dl d=true
 | [],k,j=>by simp[i5]
 |e::l,k,j=>by
  rw[i5]
  have ih:=pL (dl:=dl) (l:=l) (k:=k+1) (j:=j)
  have hs:∀d,k+1≤j→((e::l)[j-k]? =some d↔l[j-(k+1)]? =some d):=λd h=>by
   rw[show j-k=(j-(k+1))+1 from a8,Xc]
  constructor
  ·intro h
   split at h
   ·rcases Xr.1 h with rfl|h
    ·exact⟨Xj _,e,by rw[Vw];all_goals rfl,aX⟩
    ·obtain⟨h1,d,h2,h3⟩:=ih.1 h
     exact⟨a8,d,(hs d h1).2 h2,h3⟩
   ·obtain⟨h1,d,h2,h3⟩:=ih.1 h
    exact⟨a8,d,(hs d h1).2 h2,h3⟩
  ·rintro⟨h1,d,h2,h3⟩
   rcases Nat.eq_or_lt_of_le h1 with rfl|h4
   ·rw[Vw]at h2
    obtain rfl:=Xo h2
    rw[if_pos h3];exact Yz
   ·have:=ih.2 ⟨h4,d,(hs d h4).1 h2,h3⟩
    split
    ·exact Xa _ this
    ·exact this
theorem wj (dl:List Int):∀(l:List Doc) (k:Nat),(i5 dl k l).Pairwise (· < ·)
 | [],_=>List.Pairwise.nil
 |e::l,k=>by
  rw[i5]
  split
  ·exact Uk.2 ⟨λj hj=>by have:=(pL.1 hj).1;omega,wj dl l (k+1)⟩
  ·exact wj dl l (k+1)
theorem tw (dl:List Int):∀(l:List Doc) (k:Nat),(i5 dl k l).length+(e8 dl l).length=l.length
 | [],_=>rfl
 |e::l,k=>by
  have ih:=tw dl l (k+1)
  rw[i5,nW]
  split <;> simp only[Yb] <;> omega
def boL (dl:List Int) (n:Nat) (ds:List Doc) (i:Nat):List Bool:=(ds.take i).map (ff dl)++List.replicate (n-i) false
theorem MC {dl:List Int}{n i:Nat}{ds:List Doc}(h:ds.length=n) (hi:i≤n):(boL dl n ds i).length=n:=by
 simp[boL,h];omega
theorem MB {dl:List Int}{n i:Nat}{ds:List Doc}{d:Doc}(h:ds.length=n) (hd:ds[i]? =some d) (hb:ff dl d=true):(boL dl n ds i).set i true=boL dl n ds (i+1):=by
 have hi:=(Yk.1 hd).1
 have h1:((ds.take i).map (ff dl)).length=i:=aH
 rw[boL,boL,cL hd,T7,if_neg (a8),h1,Vw,show n-i=(n-(i+1))+1 from a8,Uy,S6,Va,Yf]
 simp[hb]
theorem Jp {dl:List Int}{n i:Nat}{ds:List Doc}{d:Doc}(h:ds.length=n) (hd:ds[i]? =some d) (hb:ff dl d=false):boL dl n ds i=boL dl n ds (i+1):=by
 have hi:=(Yk.1 hd).1
 rw[boL,boL,cL hd,show n-i=(n-(i+1))+1 from a8,Uy,Va,Yf]
 simp[hb]
theorem MD {dl:List Int}{n:Nat}{ds:List Doc}(h:ds.length=n):boL dl n ds n=ds.map (ff dl):=by
 rw[boL,Vw,Xq (a8)];simp
theorem JJ {G:cJ}{H:cG}{a:CaA}{lv:SV}{fs:List FV}{l:List (Int×SV)}{ds:List Doc}{dl:List Int} [hg:Glb G H] [Tab H 43 md] [Tab H 33 l7] [hf:Sl H a.fv eF fs] [hd:Sl H lv eD l] [hx:Sl H a.xv eI dl] [Spc H] (hT:jt G) (hS:nJ) (hdi:ew H l ds) (hck:qP fs ds=0) (hz0:dsz ds≤30000000) (ht0:(eQ fs ds).length≤2000000) (hn:(xy fs ds).length≤1000000000) (hxl:dl.length≤1000000000):
 SC G prog 24 [.agg (caV a).toArray,lv.val] H (λv H'=>∃(pt:PtA) (ws:List Nat) (F:cG) (xv:SV),dT F pt ⟨fs,ds,ws⟩∧(ws.length=(ds.length+63)/64∧okW ws∧Hf dl ds ws∧pt.cnt+(e8 dl ds).length=ds.length)∧v=.tuple #[pA pt.p,.agg #[a.fv.val,lv.val,xv.val]]∧H'=gO F::Row xv eBo (ds.map (ff dl))::H):=by
 have hok:=rR hck hz0 ht0
 have hc:=hok.chk
 obtain⟨hc1,hc2⟩:=gq hc
 have hfew:=hok.few
 have hll:=hdi.1
 have hk2:∀d∈ds,d.2.length≤64∧∀v∈d.2,v.2.size≤4096:=λd hd=>by
  obtain⟨g1,g2⟩:=kK (hok.vals d hd)
  exact⟨g1,λv hv=>(g2 v hv).1⟩
 refine sWk func24 ?_
 refine ws_ (wr_ (bxx (k:=λb2=>?_)))
 refine e_ asn (k:=alc (k:=λb5=>?_))
 refine on_ (qn_ (l4 (SV×Nat) (λy=>True) (λy=>[(6,pA y.2)]) [6,16,17,18,19,20,21,22] (λy=>[Vr y.2 [a.fv.val,lv.val,y.1.val],Row y.1 eBo (List.replicate l.length false)]) (Vr b5 [.slice none 0 0,.slice none 0 0,.slice none 0 0]::Vr b2 (caV a)::H) ?_ ?_))
 ·refine wD [5,7,8] (λk H=>(k=1→cY H b2 (caV a))∧(k=4→Sl H lv eD l)) (aF 0 (k:=?_))
  refine aN 1 rfl (λH hH=>aW) (?_)
  refine aF 2 (k:=aF 3 (k:=?_))
  refine aN 4 rfl (λH hH=>by have hN:=hH.2 rfl;exact lnn) (?_)
  refine jL 5 7 rfl rfl (aa) rfl rfl (λk hk=>⟨λhi=>ay,λhi=>ay⟩) (fq eBo false rfl rfl _ _ rfl rfl rfl (a8) (a8) (a8)) (ef) ?_ ?_
  ·rintro _ _ ⟨s21,rfl,hs21n,hs21c,rfl⟩
   refine af_ 6 (q:=cU λH hH=>bld [(0,_),(1,_),(2,_)]) (k:=?_)
   refine aS 7 rfl (ef) ?_
   rintro _ _ ⟨b6,rfl,rfl⟩
   refine aS 8 rfl (db rfl rfl rfl) ?_
   rintro _ _ ⟨rfl,rfl⟩
   refine aZ (jnE (s21,b6) (q:=?_))
   trivial
  rintro _ _ ⟨b6,rfl,rfl⟩
  refine aS 5 rfl (fq eBo false rfl rfl _ _ rfl rfl rfl (a8) (a8) (a8)) ?_
  rintro _ _ ⟨s21,rfl,hs21n,hs21c,rfl⟩
  refine af_ 6 (q:=cU λH hH=>bld [(0,_),(1,_),(2,_)]) (k:=?_)
  refine aS 8 rfl (db rfl rfl rfl) ?_
  rintro _ _ ⟨rfl,rfl⟩
  refine aZ (jnE (s21,b6) (q:=?_))
  trivial
 rintro⟨s21,b6⟩ _
 try dsimp only at*
 dsimp only[Yd,Ye]
 refine ws_ (wr_ (e_ asn (k:=on_ (qn_ (ws_ (ws_ (wr_ (?_))))))))
 refine eN (cH.nilRow (e:=eI) cH.refl) ?_
 rw[show Row SV.nil eI ([]:List Int)=Row SV.nil eI (cP (i5 dl 0 (ds.take 0)))from rfl,show List.replicate l.length false=boL dl l.length ds 0 from by simp[boL]]
 refine e_ mv (k:=e_ lnn (k:=e_ mv (k:=on_ (qn_ (wb_ (wl2_ (Nat×SV) (λy=>y.1≤l.length) (λy=>[(7,y.2.val),(25,iN y.1)]) [(1,_),(2,_),(5,_),(6,_),(23,_),(24,_)] (λy=>[Row y.2 eI (cP (i5 dl 0 (ds.take y.1))),Row s21 eBo (boL dl l.length ds y.1)]) _ (λy=>l.length-y.1) ((0,SV.nil)) (h0:=?_) (k:=?_)))))))
 ·try dsimp only
  exact Yl _
 rintro⟨i,u⟩ hi
 try dsimp only[Yd,Ye]at*
 refine ws_ (wr_ (e_ ilt (k:=on_ (qn_ (ws_ (wi_ (k:=λh1=>?_) (m:=λh1=>?_)))))))
 ·obtain⟨d,sv,vs,hl,hds,hsv⟩:=hdi.get (i:=i) (a8)
  have hbl:=MC (dl:=dl) (i:=i) hll.symm (a8)
  have htk:=cL hds
  have hgl:(cP (i5 dl 0 (ds.take i))).length≤i:=by
   have:=tw dl (ds.take i) 0
   rw[dJ]
   rw[Yg]at this;omega
  have hsn:=uZ dl (d,vs) (ds.take i) 0
  rw[←htk,Yg,Vk (a8),Vf]at hsn
  refine wk_ (qn_ (ws_ (wb_ (ws_ (wr_ (e_ mv (k:=e_ ixa (k:=e_ (od (hy:=hl)) (k:=alc (k:=λb9=>?_))))))))))
  refine e_ asn (k:=sto (k:=on_ (qn_ (ws_ (wr_ (e_ lds (k:=e_ fla (k:=e_ ldv (k:=?_)))))))))
  refine d2_ rfl (Ny hxl) (k:=on_ (qn_ (wi_ (k:=λh2=>?_) (m:=λh2=>?_))))
  ·have hdd:ff dl (d,vs)=true:=by have h9:=h2;exact Ys h9
   rw[if_pos hdd]at hsn
   have hset:=MB (n:=l.length) hll.symm hds hdd
   refine ws_ (wr_ (e_ fla (k:=e_ ldv (k:=e_ mv (k:=e_ ixa (k:=?_))))))
   refine s_ (dc (a:=true) (i:=i) rfl rfl (bA) (a8)) (k:=?_)
   rintro _ _ ⟨rfl,rfl⟩
   rw[hset]
   refine on_ (qn_ (wr_ (e_ mv (k:=e_ mv (k:=fX eI (k:=λs40=>?_))))))
   refine app (k:=λs41=>?_)
   rw[show cP (i5 dl 0 (ds.take i))++ [((i:Nat):Int)]=cP (i5 dl 0 (ds.take (i+1)))from by rw[hsn,cP,cP,Va];all_goals rfl]
   refine e_ asn (k:=on_ (bn_ (qn_ (wr_ (e_ iad (k:=e_ mv (k:=on_ (?_))))))))
   refine ln_ ((i+1,s41)) (k:=?_)
   try dsimp only
   omega
  have hdd:ff dl (d,vs)=false:=by have h9:=h2;exact Yr h9
  rw[if_neg (by rw[hdd];decide),Ym]at hsn
  rw[Jp (n:=l.length) hll.symm hds hdd,←hsn]
  refine wk_ (bn_ (qn_ (wr_ (e_ iad (k:=e_ mv (k:=on_ (?_)))))))
  refine ln_ ((i+1,u)) (k:=?_)
  try dsimp only
  omega
 obtain rfl:i=l.length:=a8
 rw[MD hll.symm,show ds.take l.length=ds from Xq (a8)]
 refine we_ (qe_ (le_ (bh_ (qn_ (ws_ (wr_ (e_ fla (k:=e_ lds (k:=e_ mv (k:=?_))))))))))
 refine c2_ rfl (Ef (ds:=ds) hT hS (hdi.less (hsb)) (a8) (λf hf=>by have:=(hc2 f hf).1;omega) (a8) (λd hd=>⟨by have:=(hk2 d hd).1;omega,λv hv=>by have:=(hk2 d hd).2 v hv;omega⟩) hz0 ht0) (k:=?_)
 rintro _ _ (⟨hck0,s51,rfl,rfl⟩|⟨hck0,ke,hke,rfl,rfl⟩)
 ·refine e_ mv (k:=e_ exr (k:=e_ exr (k:=e_ asn (k:=e_ asn (k:=on_ (qn_ (ws_ (ws_ (wr_ (e_ mv (k:=?_)))))))))))
  refine e_ (cK rfl) (k:=?_)
  refine on_ (qn_ (iff_ (k:=wk_ (qn_ (ws_ (wr_ (e_ fla (k:=e_ lds (k:=e_ mv (k:=?_))))))))))
  refine c2_ rfl (KE (ds:=ds) hT hS hck hz0 ht0 hn) (k:=?_)
  rintro _ _ ⟨sa,FS,hsg,rfl,rfl⟩
  refine e_ mv (k:=e_ exr (k:=e_ exr (k:=e_ asn (k:=e_ asn (k:=on_ (qn_ (ws_ (wr_ (?_)))))))))
  have hgn:=tw dl ds 0
  refine e_ mv (k:=?_)
  refine e_ (evq lnn (congrArg (λn:Nat=>iN n) hll)) (k:=?_)
  refine e_ mv (k:=?_)
  refine c2_ rfl (HF (n:=ds.length) (ks:=i5 dl 0 ds) (a8) (λk hk=>by obtain⟨_,d,h2,_⟩:=pL.1 hk;have:=(Yk.1 h2).1;omega) (wj dl ds 0) (a8)) (k:=?_)
  rintro _ _ ⟨bs,ws,rfl,rfl,hwl,hwo,hbt⟩
  refine e_ mv (k:=e_ exr (k:=e_ exr (k:=e_ asn (k:=e_ asn (k:=on_ (qn_ (ws_ (ws_ (wr_ (e_ mv (k:=?_)))))))))))
  refine e_ (cK rfl) (k:=?_)
  refine e_ mv (k:=eg_ mv (k:=?_))
  refine eg_ (cK rfl) (k:=?_)
  refine e_ pkf (k:=e_ mv (k:=eg_ mv (k:=?_)))
  refine eg_ (gN rfl) (k:=?_)
  refine e_ pkf (k:=e_ mv (k:=dz 3 80 (k:=λh3=>eg_ mv (k:=eg_ (gN rfl) (k:=e_ pkf (k:=on_ (edq))))) (q:=on_ (qn_ (wi_ (k:=λh4=>?_) (m:=λh4=>?_))))))
  ·exact absurd h4 (ak)
  refine wk_ (qn_ (ws_ (wr_ (?_))))
  refine LC bs (λsds=>?_)
  haveI hq1:∀H9,cY (gO FS::H9) sa.g [sa.fv.val,sa.dv.val,sa.lv.val,pA sa.w,sa.bl.val,sa.im.val]:=λH9=>jD ni hsg.g
  haveI hq2:∀H9,Sl (gO FS::H9) sa.dv eD sa.l:=λH9=>dj ni hsg.dv
  refine e_ mv (k:=e_ mv (k:=?_))
  refine c2_ rfl (E5 (dv:=.nilIface) (n:=ds.length) (c:=(i5 dl 0 ds).length) (s:=sds) (ws:=ws) (a8) hsg.docs.1) (k:=?_)
  rintro _ _ ⟨bp,bd2,sd2,rfl,rfl⟩
  refine e_ mv (k:=e_ exr (k:=e_ exr (k:=e_ asn (k:=e_ asn (k:=on_ (qn_ (ws_ (ws_ (wr_ (e_ mv (k:=?_)))))))))))
  refine e_ (cK rfl) (k:=?_)
  refine on_ (qn_ (iff_ (k:=wk_ (qn_ (ws_ (?_))))))
  refine wD [3] (λk H=>(k=1→cY H b6 [a.fv.val,lv.val,s21.val])) (aF 0 (k:=?_))
  refine aN 1 rfl (λH hH=>by have hN:=hH rfl;exact lds) (?_)
  refine aF 2 (k:=?_)
  refine aS 3 rfl (db rfl rfl rfl) ?_
  rintro _ _ ⟨rfl,rfl⟩
  refine aZ (qn_ (wt_ (rT (k:=?_))))
  refine⟨_,?_,{sa with p:=bp,d:=bd2,ws:=sd2,cnt:=(i5 dl 0 ds).length},ws, [gO FS,Vr bp [pA sa.g,pA bd2],Vr bd2 [iN ds.length,iN ((i5 dl 0 ds).length),sd2.val],Row sd2 eW ws],s21,Iy (hsg.less ni) inferInstance inferInstance inferInstance,⟨hwl,hwo,λj d hj=>?_,hgn⟩,rfl,rfl⟩
  ·exact cH.trans (H':=gO FS::Vr bp [pA sa.g,pA bd2]::Vr bd2 [iN ds.length,iN ((i5 dl 0 ds).length),sd2.val]::Row sd2 eW ws::Row s21 eBo (ds.map (ff dl))::H) (hsb) (cH.star (F:= [gO FS,Vr bp [pA sa.g,pA bd2],Vr bd2 [iN ds.length,iN ((i5 dl 0 ds).length),sd2.val],Row sd2 eW ws]) cH.refl)
  ·rw[hbt j (Yk.1 hj).1,U4,Xs,pL]
   simp only[S0,hj,Option.some.injEq,Yl,true_and]
   exact⟨λ⟨e,h1,h2⟩=>by rw[h1];exact h2,λh=>⟨d,rfl,h⟩⟩
 exact absurd hck hck0
abbrev RpV:=SV×SV×SV
def eRp:Enc RpV:=⟨λp=>[p.1.val,p.2.1.val,p.2.2.val],3,true,λ_=>rfl,λp v h=>by simp at h;rcases h with rfl|rfl|rfl <;> rfl,ae,λh=>aI,ae⟩
instance {p:RpV}:kX eRp p (.agg [p.1.val,p.2.1.val,p.2.2.val].toArray):=⟨rfl⟩
instance {a b c:SV}:i6 eRp (.agg [a.val,b.val,c.val].toArray) (a,b,c):=⟨rfl⟩
structure PZ where
 pt:PtA
 ws:List Nat
 F:cG
 lv:SV
 l:List (Int×SV)
 xv:SV
 ds:List Doc
def pzP (z:PZ):Nat×Nat:=(z.pt.p,0)
def pzR (fv:SV) (z:PZ):RpV:=(fv,z.lv,z.xv)
def pzQ (fs:List FV) (z:PZ):PtD:=⟨fs,z.ds,z.ws⟩
def pqH (dl:List Int) (z:PZ):cG:= [gO z.F,Row z.xv eBo (z.ds.map (ff dl))]
structure PzF (fs:List FV) (dl:List Int) (z:PZ):Prop where
 pin:dT z.F z.pt (pzQ fs z)
 ok:iU fs z.ds
 pt:MJ (pzQ fs z)
 dead:Hf dl z.ds z.ws
 cnt:z.pt.cnt+(e8 dl z.ds).length=z.ds.length
structure PzI (H:cG) (fs:List FV) (dl:List Int) (z:PZ):Prop where
 pin:dT H z.pt (pzQ fs z)
 xv:Sl H z.xv eBo (z.ds.map (ff dl))
 lv:Sl H z.lv eD z.l
 di:ew H z.l z.ds
theorem PzI.less {H H':cG}{fs:List FV}{dl:List Int}{z:PZ}(hs:cH H' H) (h:PzI H fs dl z):PzI H' fs dl z:=⟨h.pin.less hs,dj hs h.xv,dj hs h.lv,h.di.less hs⟩
theorem Ix {dl:List Int}{zs:List PZ}(z:PZ) {H:cG}:cH (gO z.F::Row z.xv eBo (z.ds.map (ff dl))::Cl (pqH dl) zs::H) (Cl (pqH dl) (zs++ [z])::H):=pW (f:=pqH dl) z
theorem O2 {H R R2:cG}{fs:List FV}{dl:List Int}{zs:List PZ}(hr:mW H (Cl (pqH dl) zs) R) (h2:cH R R2) (hz:∀z∈zs,PzF fs dl z∧Sl R2 z.lv eD z.l∧ew R2 z.l z.ds):∀z∈zs,PzI H fs dl z:=λz hm=>by
 obtain⟨i,hi⟩:=Uf hm
 obtain⟨h3,h4,h5⟩:=hz z hm
 have hR:cH H R2:=cH.trans (gf hr cH.refl) (cH.trans (cH.drop cH.refl) h2)
 have hO:cH H (gO z.F::Row z.xv eBo (z.ds.map (ff dl))::Cl (pqH dl) (zs.take i)::Cl (pqH dl) (zs.drop (i+1))::R):=gf hr (lg (f:=pqH dl) hi)
 exact⟨h3.pin.less (cH.trans hO ni),dj hO inferInstance,dj hR h4,h5.less hR⟩
theorem AX {fs:List FV}{ds:List Doc}(h:iU fs ds):(xy fs ds).length≤1000000000:=by
 have hg:=h.goodT
 have ht:=h.toks
 have hz:=h.size
 have hn:=h.few
 have hfl:=h.flen
 have h1:=qw hg
 have h2:=py (eQ fs ds)
 have h3:=yG (Bz hg ht) (by rw[iF];omega)
 rw[iF]at h3
 have h4:=yv h.chk
 have h5:=lL (fs:=fs) hz hn fs.length
 have h6:=jd (fs:=fs) (ds:=ds) (a8) h.q
 have h7:=nS (l:=ds.map (·.1)) h.pos (λx hx=>bI)
 rw[Yh]at h7
 have h8:=eA (n:=ds.length) (k:=6) (a8) (a8)
 have hI:(mH ds).length≤10*4096+6:=by rw[mH,Ya];omega
 have hu:∀n,n<1099511627776→(uv n).length≤6:=λn hn=>eA hn (a8)
 have u0:(uv 6).length≤6:=hu 6 (ae)
 show(kZ 83 (lE fs ds)).length≤_
 rw[tn,show(lE fs ds).length=6 from rfl]
 simp only[ei,lE,Vp,List.flatMap_nil,Ya,Yc,pR]
 have u1:=hu (wF fs).length (a8)
 have u2:=hu (mH ds).length (a8)
 have u3:=hu (ld fs ds fs.length).length (a8)
 have u4:=hu (fT (gD 0 (dq (eQ fs ds)))).length (a8)
 have u5:=hu (dI (dq (eQ fs ds))).length (a8)
 have u6:=hu (eJ fs ds).length (a8)
 omega
structure OL (fs:List FV) (ds:List Doc):Prop where
 ck:qP fs ds=0
 z:dsz ds≤30000000
 t:(eQ fs ds).length≤2000000
theorem KB {G:cJ}{H:cG}{a:CaA}{cv:SV}{cs:List Int}{fs:List FV}{svs:List SV}{vss:List (List Val)}{dl:List Int} [hg:Glb G H] [Tab H 43 md] [Tab H 33 l7] [hf:Sl H a.fv eF fs] [hd:Sl H a.dv eSV svs] [hx:Sl H a.xv eI dl] [hc:Sl H cv eI cs] [Spc H] (hT:jt G) (hS:nJ) (hdi:uk H svs vss) (hn:svs.length≤4096) (hcl:cs.length≤2000000) (hxl:dl.length≤1000000000) (hds:∀lo hi:Nat,OL fs (((idL 0 vss).take hi).drop lo)):
 SC G prog 6 [.agg (caV a).toArray,cv.val] H (λv H'=>∃(ud u w:SV) (zs:List PZ),(∀z∈zs,PzF fs dl z∧Sl (Row ud eD (idL 0 svs)::H) z.lv eD z.l∧ew (Row ud eD (idL 0 svs)::H) z.l z.ds)∧zs.length=cs.length+1∧v=.tuple #[u.val,w.val,.bool true]∧H'=Row u ePt (zs.map pzP)::Row w eRp (zs.map (pzR a.fv))::Cl (pqH dl) zs::Row ud eD (idL 0 svs)::H):=by
 have hil:(idL 0 svs).length=svs.length:=mJ _ _
 have hiv:(idL 0 vss).length=svs.length:=by rw[mJ,hdi.1]
 refine sWk func6 ?_
 refine ws_ (wr_ (bxx (k:=λb2=>?_)))
 refine e_ asn (k:=e_ asn (k:=e_ asn (k:=on_ (qn_ (ws_ (wr_ (e_ lds (k:=?_))))))))
 refine c1_ rfl (HU (a8)) (k:=?_)
 rintro _ _ ⟨ud,rfl,rfl⟩
 refine e_ asn (k:=on_ (qn_ (ws_ (wr_ (e_ asn (k:=on_ (qn_ (ws_ (wr_ (e_ asn (k:=on_ (qn_ (ws_ (?_))))))))))))))
 refine ws_ (wr_ (?_))
 refine eN (cH.nilRow (e:=ePt) (cH.nilRow (e:=eRp) cH.refl)) ?_
 rw[show Row SV.nil ePt ([]:List (Nat×Nat))=Row SV.nil ePt (([]:List PZ).map pzP)from rfl,show Row SV.nil eRp ([]:List RpV)=Row SV.nil eRp (([]:List PZ).map (pzR a.fv))from rfl]
 refine s_ (fK eI rfl) (k:=?_)
 rintro _ _ ⟨s16,rfl,rfl⟩
 refine e_ mv (k:=app (k:=λs18=>?_))
 refine e_ mv (k:=e_ lnn (k:=fX eI (k:=λs21=>?_)))
 refine app (k:=λs22=>?_)
 refine e_ lnn (k:=e_ mv (k:=on_ (qn_ (wb_ (wl2_ (Nat×SV×(List (Int×SV))×(List Doc)×Nat×SV×SV×(List PZ)) (λy=>y.1≤cs.length+1∧y.2.2.2.2.2.2.2.length=y.1∧y.2.2.2.2.1≤svs.length∧y.2.2.1=(idL 0 svs).drop y.2.2.2.2.1∧y.2.2.2.1=(idL 0 vss).drop y.2.2.2.2.1∧Sl (Row ud eD (idL 0 svs)::H) y.2.1 eD y.2.2.1∧∀z∈y.2.2.2.2.2.2.2,PzF fs dl z∧Sl (Row ud eD (idL 0 svs)::H) z.lv eD z.l∧ew (Row ud eD (idL 0 svs)::H) z.l z.ds) (λy=>[(7,y.2.1.val),(8,y.2.2.2.2.2.1.val),(9,y.2.2.2.2.2.2.1.val),(24,iN y.1)]) [(2,_),(22,_),(23,_)] (λy=>[Row y.2.2.2.2.2.1 ePt (y.2.2.2.2.2.2.2.map pzP),Row y.2.2.2.2.2.2.1 eRp (y.2.2.2.2.2.2.2.map (pzR a.fv)),Cl (pqH dl) y.2.2.2.2.2.2.2]) _ (λy=>cs.length+1-y.1) ((0,ud,idL 0 svs,idL 0 vss,0,SV.nil,SV.nil, [])) (h0:=?_) (k:=?_))))))
 ·try dsimp only
  exact⟨Yl _,rfl,Yl _,rfl,rfl,inferInstance,ak⟩
 rintro⟨i,lv,l,ds,k,u,w,zs⟩ ⟨hi,hzl,hk,hl,hdsk,hsl,hz⟩
 try dsimp only[Yd,Ye]at*
 have hcx:(cs++ [(((idL 0 svs).length:Nat):Int)]).length=cs.length+1:=ak
 refine ws_ (wr_ (e_ ilt (k:=on_ (qn_ (ws_ (wi_ (k:=λh1=>?_) (m:=λh1=>?_)))))))
 ·obtain⟨x,hxi⟩:∃x,(cs++ [(((idL 0 svs).length:Nat):Int)])[i]? =some x:=⟨_,Yi (a8)⟩
  have hll:l.length=svs.length-k:=by rw[hl,Yo,hil]
  have hdl:ds.length=svs.length-k:=by rw[hdsk,Yo,hiv]
  obtain⟨n,hne⟩:∃n:Nat,n=(max 0 (min x (l.length:Int))).toNat:=⟨_,rfl⟩
  have hnl:n≤l.length:=a8
  have hdk9:=hds k (k+n)
  have hdsE:((idL 0 vss).take (k+n)).drop k=ds.take n:=by rw[hdsk,R8,V0]
  rw[hdsE]at hdk9
  have hdi0:ew (Row ud eD (idL 0 svs)::H) l ds:=by
   have:=((IM hdi).less (H':=Row ud eD (idL 0 svs)::H) (hsb)).part k svs.length
   rw[show(idL 0 svs).take svs.length=idL 0 svs from Xq (a8),show(idL 0 vss).take svs.length=idL 0 vss from Xq (a8),←hl,←hdsk]at this
   exact this
  have hdi1:ew (Row ud eD (idL 0 svs)::H) (l.take n) (ds.take n):=by
   have:=hdi0.part 0 n
   rwa [Vi,Vi]at this
  have hs1:Sl (Row ud eD (idL 0 svs)::H) (lv.cut 2 0 n) eD (l.take n):=by
   have:=Sl.cut hsl (lo:=0) (hi:=n) (Yl _) hnl
   rwa [Vi]at this
  have hs2:Sl (Row ud eD (idL 0 svs)::H) (lv.cut 2 n l.length) eD (l.drop n):=by
   have:=Sl.cut hsl (lo:=n) (hi:=l.length) hnl (Xj _)
   rwa [Xk]at this
  have hok:=rR hdk9.ck hdk9.z hdk9.t
  have hup:(zs.map pzP).length=i:=by rw[Yh,hzl]
  have hwp:(zs.map (pzR a.fv)).length=i:=by rw[Yh,hzl]
  refine wk_ (qn_ (ws_ (wb_ (ws_ (wr_ (e_ ixa (k:=e_ (lel (hy:=hxi)) (k:=e_ asn (k:=on_ (qn_ (ws_ (wr_ (e_ mv (k:=?_))))))))))))))
  refine e_ mv (k:=e_ (lnn (hs:=dj (hsb) hsl)) (k:=?_))
  refine e_ (lr rfl rfl) (k:=?_)
  refine e_ (evq (tH rfl rfl) (congrArg (Value.int .i64) (show _=(n:Int)from a8))) (k:=?_)
  refine e_ asn (k:=on_ (qn_ (l4 (PZ×Nat) (λy=>PzF fs dl y.1∧Sl (Row ud eD (idL 0 svs)::H) y.1.lv eD y.1.l∧ew (Row ud eD (idL 0 svs)::H) y.1.l y.1.ds) (λy=>[(12,pA y.1.pt.p),(13,pA y.2)]) [12,13,33,34,35,36,37,38,39,40] (λy=>[gO y.1.F,Row y.1.xv eBo (y.1.ds.map (ff dl)),Vr y.2 [a.fv.val,y.1.lv.val,y.1.xv.val]]) (Row u ePt (zs.map pzP)::Row w eRp (zs.map (pzR a.fv))::Cl (pqH dl) zs::Row s21 eI [(((idL 0 svs).length:Nat):Int)]::Row s22 eI (cs++ [(((idL 0 svs).length:Nat):Int)])::Row ud eD (idL 0 svs)::Vr b2 (caV a)::H) ?_ ?_)))
  ·refine wD [4,8,10] (λk H=>(k=0→cY H b2 (caV a))∧(k=3→Sl H lv eD l)) (?_)
   refine aN 0 rfl (λH hH=>aW) (?_)
   refine aF 1 (k:=aF 2 (k:=?_))
   refine aN 3 rfl (λH hH=>by have hN:=hH.2 rfl;exact fA rfl (bA) 0 n rfl ⟨_,_,rfl,rfl⟩ (Yl _) hnl) (?_)
   refine jL 4 8 rfl rfl (aa) rfl rfl (λk hk=>⟨λhi=>aD,λhi=>aD⟩) (v2_ (JJ (l:=l.take n) (ds:=ds.take n) hT hS (hdi1.less (hsb)) hdk9.ck hdk9.z hdk9.t (AX hok) hxl (hd:=dj (hsb) hs1))) (ef) ?_ ?_
   ·rintro _ _ ⟨pt,ws,F,xv,hpt,⟨hw1,hw2,hw3,hw4⟩,rfl,rfl⟩
    refine aF 5 (k:=aF 6 (k:=aF 7 (k:=?_)))
    refine aS 8 rfl (ef) ?_
    rintro _ _ ⟨b13,rfl,rfl⟩
    refine aF 9 (k:=?_)
    refine aS 10 rfl (db rfl rfl rfl) ?_
    rintro _ _ ⟨rfl,rfl⟩
    refine aZ (jnE (⟨pt,ws,F,lv.cut 2 0 n,l.take n,xv,ds.take n⟩,b13) (q:=?_))
    exact⟨⟨hpt,hok,⟨by show(ds.take n).length≤1048576;rw[Yg];omega,⟨(gq hok.chk).1.1,by have:=(gq hok.chk).1.2;show fs.length≤1000000000;omega⟩,hw1,hw2⟩,hw3,hw4⟩,hs1,hdi1⟩
   rintro _ _ ⟨b13,rfl,rfl⟩
   refine jR 4 rfl (aa) rfl (λk hk=>⟨λhi=>aD,λhi=>aD⟩) (v2_ (JJ (l:=l.take n) (ds:=ds.take n) hT hS (hdi1.less (hsb)) hdk9.ck hdk9.z hdk9.t (AX hok) hxl (hd:=dj (hsb) hs1))) ?_
   rintro _ _ ⟨pt,ws,F,xv,hpt,⟨hw1,hw2,hw3,hw4⟩,rfl,rfl⟩
   refine aF 5 (k:=aF 6 (k:=aF 7 (k:=aF 9 (k:=?_))))
   refine aS 10 rfl (db rfl rfl rfl) ?_
   rintro _ _ ⟨rfl,rfl⟩
   refine aZ (jnE (⟨pt,ws,F,lv.cut 2 0 n,l.take n,xv,ds.take n⟩,b13) (q:=?_))
   exact⟨⟨hpt,hok,⟨by show(ds.take n).length≤1048576;rw[Yg];omega,⟨(gq hok.chk).1.1,by have:=(gq hok.chk).1.2;show fs.length≤1000000000;omega⟩,hw1,hw2⟩,hw3,hw4⟩,hs1,hdi1⟩
  rintro⟨z,b13⟩ ⟨hz1,hz2,hz3⟩
  try dsimp only at*
  dsimp only[Yd,Ye]
  refine ws_ (ws_ (wr_ (e_ mv (k:=?_))))
  refine e_ (gN rfl) (k:=?_)
  refine on_ (qn_ (wi_ (k:=λh2=>?_) (m:=λh2=>?_)))
  ·exact absurd h2 (ak)
  refine wk_ (qn_ (l4 (SV×SV) (λy=>True) (λy=>[(8,y.1.val),(9,y.2.val)]) [8,9,43,44,45,46,47,48,49,50] (λy=>[Row y.1 ePt ((zs++ [z]).map pzP),Row y.2 eRp ((zs++ [z]).map (pzR a.fv))]) (gO z.F::Row z.xv eBo (z.ds.map (ff dl))::Cl (pqH dl) zs::Row s21 eI [(((idL 0 svs).length:Nat):Int)]::Row s22 eI (cs++ [(((idL 0 svs).length:Nat):Int)])::Row ud eD (idL 0 svs)::Vr b2 (caV a)::H) ?_ ?_))
  ·refine wD [2,3,6,7] (λk H=>(k=5→cY H b13 [a.fv.val,z.lv.val,z.xv.val])) (aF 0 (k:=aF 1 (k:=aF 4 (k:=?_))))
   refine aN 5 rfl (λH hH=>by have hN:=hH rfl;exact lds) (?_)
   refine jL 2 6 rfl rfl (aa) rfl rfl (λk hk=>λhi=>aD) (eC ePt rfl rfl) (eC eRp rfl rfl) ?_ ?_
   ·rintro _ _ ⟨s45,rfl,rfl⟩
    refine jL 3 6 rfl rfl (aa) rfl rfl (λk hk=>λhi=>aD) (fw rfl rfl rfl rfl (af) (af)) (eC eRp rfl rfl) ?_ ?_
    ·rintro _ _ ⟨s46,rfl,rfl⟩
     rw[show zs.map pzP++ [(z.pt.p,0)]=(zs++ [z]).map pzP from bN]
     refine jR 6 rfl (aa) rfl (λk hk=>λhi=>aD) (eC eRp rfl rfl) ?_
     rintro _ _ ⟨s49,rfl,rfl⟩
     refine aS 7 rfl (fw rfl rfl rfl rfl (af) (af)) ?_
     rintro _ _ ⟨s50,rfl,rfl⟩
     rw[show zs.map (pzR a.fv)++ [(a.fv,z.lv,z.xv)]=(zs++ [z]).map (pzR a.fv)from bN]
     refine aF 8 (k:=aF 9 (k:=aZ (jnE (s46,s50) (q:=?_))))
     trivial
    rintro _ _ ⟨s49,rfl,rfl⟩
    refine aS 3 rfl (fw rfl rfl rfl rfl (af) (af)) ?_
    rintro _ _ ⟨s46,rfl,rfl⟩
    rw[show zs.map pzP++ [(z.pt.p,0)]=(zs++ [z]).map pzP from bN]
    refine aS 7 rfl (fw rfl rfl rfl rfl (af) (af)) ?_
    rintro _ _ ⟨s50,rfl,rfl⟩
    rw[show zs.map (pzR a.fv)++ [(a.fv,z.lv,z.xv)]=(zs++ [z]).map (pzR a.fv)from bN]
    refine aF 8 (k:=aF 9 (k:=aZ (jnE (s46,s50) (q:=?_))))
    trivial
   rintro _ _ ⟨s49,rfl,rfl⟩
   refine aS 2 rfl (eC ePt rfl rfl) ?_
   rintro _ _ ⟨s45,rfl,rfl⟩
   refine aS 3 rfl (fw rfl rfl rfl rfl (af) (af)) ?_
   rintro _ _ ⟨s46,rfl,rfl⟩
   rw[show zs.map pzP++ [(z.pt.p,0)]=(zs++ [z]).map pzP from bN]
   refine aS 7 rfl (fw rfl rfl rfl rfl (af) (af)) ?_
   rintro _ _ ⟨s50,rfl,rfl⟩
   rw[show zs.map (pzR a.fv)++ [(a.fv,z.lv,z.xv)]=(zs++ [z]).map (pzR a.fv)from bN]
   refine aF 8 (k:=aF 9 (k:=aZ (jnE (s46,s50) (q:=?_))))
   trivial
  rintro⟨u2,w2⟩ _
  try dsimp only at*
  dsimp only[Yd,Ye]
  refine wr_ (e_ mv (k:=e_ mv (k:=?_)))
  refine e_ (fA (hs:=dj (hsb) hsl) rfl (bA) n l.length ⟨_,_,rfl,rfl⟩ rfl hnl (Xj _)) (k:=?_)
  refine e_ asn (k:=on_ (bn_ (qn_ (wr_ (?_)))))
  refine eN (cH.trans (H':=gO z.F::Row z.xv eBo (z.ds.map (ff dl))::Cl (pqH dl) zs::Row u2 ePt ((zs++ [z]).map pzP)::Row w2 eRp ((zs++ [z]).map (pzR a.fv))::Row s21 eI [(((idL 0 svs).length:Nat):Int)]::Row s22 eI (cs++ [(((idL 0 svs).length:Nat):Int)])::Row ud eD (idL 0 svs)::Vr b2 (caV a)::H) (hsb) (Ix z)) ?_
  refine e_ iad (k:=e_ mv (k:=on_ (?_)))
  refine ln_ ((i+1,lv.cut 2 n l.length,l.drop n,ds.drop n,k+n,u2,w2,zs++ [z])) (k:=?_)
  try dsimp only
  exact⟨a8,by rw[Ya,hzl];all_goals rfl,a8,by rw[hl,Vm],by rw[hdsk,Vm],hs2,λy hy=>by
   rcases Xl.1 hy with hy|hy
   ·exact hz y hy
   ·rw[Ui]at hy;subst hy;exact⟨hz1,hz2,hz3⟩⟩
 obtain rfl:i=cs.length+1:=az
 refine we_ (qe_ (le_ (bh_ (qn_ (ws_ (wr_ (e_ mv (k:=e_ mv (k:=e_ asn (k:=e_ asn (k:=e_ asn (k:=on_ (qn_ (?_))))))))))))))
 refine wt_ (rT (k:=?_))
 exact⟨_,hsb,ud,u,w,zs,hz,hzl,rfl,rfl⟩
theorem qN {H:cG}{dl:List Int}:∀{l:List (Int×SV)}{ds:List Doc},ew H l ds→ew H (l.filter λp=>!decide (p.1∈dl)) (e8 dl ds)
 | [], [],h=>h
 | [],d::ds,h=>by have:=h.1;simp at this
 |p::l, [],h=>by have:=h.1;simp at this
 |p::l,d::ds,h=>by
  have ht:ew H l ds:=⟨by have:=h.1;simpa using this,λi a b h1 h2=>h.2 (i+1) a b (by rw[Xc];exact h1) (by rw[Xc];exact h2)⟩
  obtain⟨h1,h2⟩:=h.2 0 p d rfl rfl
  have ih:=qN (dl:=dl) ht
  rw[nW,List.filter_cons,h1]
  by_cases hd:d.1∈dl
  ·rw[if_pos (show ff dl d=true from Ys hd),Ys hd]
   exact ih
  ·rw[if_neg (show ¬ff dl d=true by unfold ff;simpa using hd),Yr hd]
   refine⟨by simp only[V1,if_true,Yb];rw[ih.1],λi a b ha hb=>?_⟩
   cases i with
   |zero=>cases ha;cases hb;exact⟨h1,h2⟩
   |succ i=>exact ih.2 i a b ha hb
theorem GH {H:cG}{dl:List Int}{l:List (Int×SV)}{ds:List Doc}(h:ew H l ds) {i:Nat}{p:Int×SV}(hp:l[i]? =some p):(ds.map (ff dl))[i]? =some (decide (p.1∈dl)):=by
 have hil:=(Yk.1 hp).1
 obtain⟨d,hd⟩:∃d,ds[i]? =some d:=⟨_,Yi (by have:=h.1;omega)⟩
 rw[Xd,hd,(h.2 i p d hp hd).1];all_goals rfl
theorem EP {G:cJ}{H:cG}{fv dv xv:SV}{l:List (Int×SV)}{ds:List Doc}{dl:List Int} [hd:Sl H dv eD l] [hx:Sl H xv eBo (ds.map (ff dl))] (hdi:ew H l ds) (hn:l.length≤1000000):SC G prog 25 [.agg #[fv.val,dv.val,xv.val]] H (λv H'=>∃s':SV,v=s'.val∧H'=Row s' eD (l.filter λp=>!decide (p.1∈dl))::H):=by
 have hll:=hdi.1
 have hml:(ds.map (ff dl)).length=ds.length:=Yh ..
 refine sWk func25 ?_
 refine ws_ (wr_ (bxx (k:=λb1=>?_)))
 refine e_ asn (k:=on_ (qn_ (ws_ (wr_ (?_)))))
 refine s_ (fK eD rfl) (k:=?_)
 rintro _ _ ⟨s6,rfl,rfl⟩
 refine e_ asn (k:=on_ (qn_ (ws_ (ws_ (wr_ (?_))))))
 rw[show Row s6 eD ([]:List (Int×SV))=Row s6 eD ((l.take 0).filter λp=>!decide (p.1∈dl))from rfl]
 refine e_ fla (k:=e_ ldv (k:=e_ lnn (k:=e_ mv (k:=on_ (qn_ (wb_ (wl2_ (Nat×SV) (λy=>y.1≤l.length) (λy=>[(3,y.2.val),(10,iN y.1)]) [(1,_),(8,_),(9,_)] (λy=>[Row y.2 eD ((l.take y.1).filter λp=>!decide (p.1∈dl))]) _ (λy=>l.length-y.1) ((0,s6)) (h0:=?_) (k:=?_))))))))
 ·try dsimp only
  exact Yl _
 rintro⟨i,u⟩ hi
 try dsimp only[Yd,Ye]at*
 refine ws_ (wr_ (e_ ilt (k:=on_ (qn_ (ws_ (wi_ (k:=λh1=>?_) (m:=λh1=>?_)))))))
 ·obtain⟨p,hp⟩:=gE l i
  obtain⟨d,sv⟩:=p
  have hrow:=GH (dl:=dl) hdi hp
  have hfl:((l.take i).filter λp=>!decide (p.1∈dl)).length≤i:=by
   have:=List.length_filter_le (λp:Int×SV=>!decide (p.1∈dl)) (l.take i)
   rw[Yg]at this;omega
  have hst:((l.take (i+1)).filter λp=>!decide (p.1∈dl))=((l.take i).filter λp=>!decide (p.1∈dl))++(if d∈dl then []else [(d,sv)]):=by
   rw[cL hp,List.filter_append]
   by_cases h:d∈dl <;> simp[h]
  refine wk_ (qn_ (ws_ (wb_ (ws_ (wr_ (e_ mv (k:=e_ ixa (k:=e_ (od (hy:=hp)) (k:=alc (k:=λb5=>?_))))))))))
  refine e_ asn (k:=sto (k:=on_ (qn_ (ws_ (wr_ (e_ mv (k:=e_ fla (k:=e_ ldv (k:=e_ lnn (k:=e_ ige (k:=e_ mv (k:=dz 7 27 (k:=λh2=>eg_ fla (k:=eg_ ldv (k:=eg_ mv (k:=eg_ ixa (k:=eg_ (lel (hy:=hrow)) (k:=eg_ jq (k:=e_ pkf (k:=on_ (edq))))))))) (q:=on_ (?_))))))))))))))
  refine qn_ (wi_ (k:=λh3=>?_) (m:=λh3=>?_))
  ·have hnd:¬d∈dl:=by have h9:=h3;rcases h9 with h9|h9;omega;simpa using h9
   rw[if_neg hnd]at hst
   refine wr_ (e_ mv (k:=e_ lds (k:=fX eD (k:=λs30=>?_))))
   refine app (k:=λs31=>?_)
   rw[←hst]
   refine e_ asn (k:=on_ (bn_ (qn_ (wr_ (e_ iad (k:=e_ mv (k:=on_ (?_))))))))
   refine ln_ ((i+1,s31)) (k:=?_)
   try dsimp only
   omega
  have hnd:d∈dl:=by have h9:=h3;exact h9.2
  rw[if_pos hnd,Ym]at hst
  rw[←hst]
  refine wk_ (bn_ (qn_ (wr_ (e_ iad (k:=e_ mv (k:=on_ (?_)))))))
  refine ln_ ((i+1,u)) (k:=?_)
  try dsimp only
  omega
 obtain rfl:i=l.length:=a8
 rw[Xk]
 refine we_ (qe_ (le_ (bh_ (qn_ (ws_ (wr_ (e_ mv (k:=e_ asn (k:=on_ (qn_ (wt_ (rT (k:=?_)))))))))))))
 exact⟨_,hsb,u,rfl,rfl⟩
def iO (fs:List FV) (f:Int) (vs:List Val):List Tok:=if f<0 then []else dB fs f.toNat vs
theorem vh {fs:List FV}{k:Nat}(h:fs.length≤k) (vs:List Val):dB fs k vs= []:=by rw[dB,Ve h]
theorem Iu {G:cJ}{H:cG}{fv vv:SV}{fs:List FV}{f:Int}{vs:List Val} [hf:Sl H fv eF fs] (ho:f<0∨(fs.length:Int)≤f):SC G prog 26 [.agg #[fv.val],.int .i64 f,vv.val] H (λv H'=>∃s:SV,v=s.val∧H'=Row s eT []::H):=by
 refine sWk func26 ?_
 refine ws_ (wr_ (bxx (k:=λb3=>?_)))
 refine e_ asn (k:=on_ (qn_ (ws_ (wr_ (?_)))))
 refine s_ (fK eT rfl) (k:=?_)
 rintro _ _ ⟨s15,rfl,rfl⟩
 refine e_ asn (k:=on_ (qn_ (ws_ (ws_ (wr_ (e_ mv (k:=e_ ilt (k:=e_ mv (k:=dz 6 24 (k:=λh1=>eg_ mv (k:=eg_ fla (k:=eg_ ldv (k:=eg_ lnn (k:=eg_ ige (k:=e_ pkf (k:=on_ (edq)))))))) (q:=on_ (qn_ (wi_ (k:=λh2=>?_) (m:=λh2=>?_)))))))))))))
 ·refine ws_ (wr_ (e_ mv (k:=e_ asn (k:=on_ (qn_ (wt_ (qr_ (rT (k:=?_)))))))))
  exact⟨_,hsb,_,rfl,rfl⟩
 exfalso;have h9:=h2;omega
theorem Iv {G:cJ}{H:cG}{fv vv:SV}{fs:List FV}{f:Int}{vs:List Val} [hf:Sl H fv eF fs] [hv:Sl H vv eVl vs] (hfl:fs.length≤1000) (hn:vs.length≤100000000) (hq:∀v∈vs,v.2.size≤3000000) (hz:vsz vs≤1000000000):SC G prog 26 [.agg #[fv.val],.int .i64 f,vv.val] H (λv H'=>∃s:SV,v=s.val∧H'=Row s eT (iO fs f vs)::H):=by
 by_cases ho:f<0∨(fs.length:Int)≤f
 ·have he:iO fs f vs= []:=by
   unfold iO
   split
   ·rfl
   ·exact vh (a8) vs
  rw[he]
  exact Iu (vs:=vs) ho
 ·obtain⟨k,rfl⟩:∃k:Nat,f=(k:Int):=⟨f.toNat,a8⟩
  have he:iO fs (k:Int) vs=dB fs k vs:=by
   unfold iO
   rw[if_neg (a8),Uv]
  rw[he]
  exact ER (a8) (a8) hn hq hz
def ry (dl:List Int) (zs:List PZ):Nat:=(zs.map λz=>(e8 dl z.ds).length).sum
def mi (fs:List FV) (dl:List Int) (S:List Nat) (zs:List PZ):List Nat:=zs.foldl (λS z=>oh fs S (e8 dl z.ds)) S
theorem yJ {dl:List Int}{zs:List PZ}{i:Nat}{z:PZ}(h:zs[i]? =some z):ry dl (zs.take (i+1))=ry dl (zs.take i)+(e8 dl z.ds).length:=by
 rw[cL h];simp[ry]
theorem uB {fs:List FV}{dl:List Int}{S:List Nat}{zs:List PZ}{i:Nat}{z:PZ}(h:zs[i]? =some z):mi fs dl S (zs.take (i+1))=oh fs (mi fs dl S (zs.take i)) (e8 dl z.ds):=by
 rw[cL h,mi,List.foldl_append];all_goals rfl
theorem Dp {fs:List FV}{S:List Nat}{l:List Doc}{k:Nat}{d:Doc}(h:l[k]? =some d):oh fs S (l.take (k+1))=nI fs (oh fs S (l.take k)) d:=by
 rw[cL h,oh,List.foldl_append];all_goals rfl
theorem pe (fs:List FV) (dl:List Int):∀(zs:List PZ) (S:List Nat),(mi fs dl S zs).length=S.length
 | [],_=>rfl
 |z::zs,S=>by rw[mi,List.foldl_cons];exact(pe fs dl zs _).trans (tW ..)
theorem xY {dl:List Int}{ds:List Doc}{d:Doc}(h:d∈e8 dl ds):d∈ds:=(Q9.1 h).1
theorem zi {ds:List Doc}{d:Doc}(h:d∈ds):vsz d.2≤dsz ds:=pS h
theorem Gv {ds:List Doc}{k:Nat}{d:Doc}(h:ds[k]? =some d):dsz (ds.take k)+vsz d.2≤dsz ds:=by
 have:=yz h
 have:=Ad ds (k+1)
 omega
theorem pU (ds:List Doc) {a b:Nat}(h:a≤b):dsz (ds.drop b)≤dsz (ds.drop a):=by
 obtain⟨c,rfl⟩:∃c,b=a+c:=⟨b-a,a8⟩
 rw[←Vm]
 have:∀(l:List Doc) (c:Nat),dsz (l.drop c)≤dsz l:=λl c=>by
  have:=congrArg dsz (Xv c l)
  simp only[dsz,Va,List.sum_append]at this⊢
  omega
 exact this _ c
theorem Ae (ds:List Doc) (a:Nat):dsz (ds.drop a)≤dsz ds:=pU ds (Yl a)
theorem Cu {G:cJ}{H:cG}{fv rv:SV}{fs:List FV}{dl:List Int}{zs:List PZ} [hf:Sl H fv eF fs] [hr:Sl H rv eRp (zs.map (pzR fv))] (hz:∀z∈zs,PzI H fs dl z) (hp:∀z∈zs,PzF fs dl z) (hfl:fs.length≤1000) (hn:zs.length≤3000000):SC G prog 7 [.agg #[fv.val],rv.val] H (λv H'=>∃s:SV,v=.agg #[iN (ry dl zs),s.val]∧H'=Row s eI (cP (mi fs dl (List.replicate fs.length 0) zs))::H):=by
 have hml:(zs.map (pzR fv)).length=zs.length:=Yh ..
 have hrep:(List.replicate fs.length (0:Int))=cP (mi fs dl (List.replicate fs.length 0) (zs.take 0)):=by rw[cP];simp[mi]
 refine sWk func7 ?_
 refine ws_ (wr_ (bxx (k:=λb2=>?_)))
 refine alc (k:=λb4=>?_)
 refine on_ (qn_ (ws_ (wr_ (e_ fla (k:=e_ ldv (k:=e_ lnn (k:=?_)))))))
 refine s_ (fq eI 0 rfl rfl _ _ rfl rfl rfl (a8) (a8) (a8)) (k:=?_)
 rintro _ _ ⟨s14,rfl,hs14n,hs14c,rfl⟩
 refine e_ (bld [(1,_)]) (k:=alc (k:=λb5=>?_))
 refine sto (k:=on_ (qn_ (ws_ (ws_ (wr_ (?_))))))
 rw[hrep]
 refine e_ asn (k:=on_ (qn_ (wb_ (wl2_ (Nat×Nat×(List Nat)) (λy=>y.1≤zs.length∧y.2.1=ry dl (zs.take y.1)∧y.2.2=mi fs dl (List.replicate fs.length 0) (zs.take y.1)∧y.2.1≤y.1*4096∧kI y.2.2 (y.1*30000000)) (λy=>[(6,iN y.1)]) [(1,_),(2,_),(4,_),(5,_)] (λy=>[Vr b5 [iN y.2.1,s14.val],Row s14 eI (cP y.2.2)]) _ (λy=>zs.length-y.1) ((0,0,mi fs dl (List.replicate fs.length 0) (zs.take 0))) (h0:=?_) (k:=?_)))))
 ·try dsimp only
  exact⟨Yl _,rfl,rfl,Xj _,λs hs=>by simp[mi]at hs;omega⟩
 rintro⟨i,D,S⟩ ⟨hi,hD,hSs,hDb,hSb⟩
 try dsimp only[Yd,Ye]at*
 refine ws_ (ws_ (wr_ (e_ mv (k:=e_ mv (k:=e_ lnn (k:=e_ ilt (k:=on_ (qn_ (wi_ (k:=λh1=>?_) (m:=λh1=>?_))))))))))
 ·obtain⟨z,hzi⟩:=gE zs i
  have hzr:(zs.map (pzR fv))[i]? =some (fv,z.lv,z.xv):=by rw[Xd,hzi];all_goals rfl
  have hzI:=hz z (Yj hzi)
  have hzF:=hp z (Yj hzi)
  have hfew:=hzF.ok.few
  have hdz:=hzF.ok.size
  have hll:=hzI.di.1
  haveI hq1:Sl H z.lv eD z.l:=hzI.lv
  haveI hq2:Sl H z.xv eBo (z.ds.map (ff dl)):=hzI.xv
  have hlf:=qN (dl:=dl) hzI.di
  have hlfl:=hlf.1
  have hlv:=nx dl z.ds
  have hlz:=pT dl z.ds
  have hSl:S.length=fs.length:=by rw[hSs,pe,Xe]
  refine wk_ (qn_ (ws_ (wb_ (ws_ (wr_ (e_ mv (k:=e_ mv (k:=e_ ixa (k:=e_ (od (hy:=hzr)) (k:=?_))))))))))
  refine c1_ rfl (EP (hzI.di.less (hsb)) (a8)) (k:=?_)
  rintro _ _ ⟨s26,rfl,rfl⟩
  refine e_ asn (k:=on_ (qn_ (ws_ (wr_ (e_ asn (k:=on_ (qn_ (wb_ (wl2_ (Nat×(List Nat)) (λy=>y.1≤(e8 dl z.ds).length∧y.2=oh fs S ((e8 dl z.ds).take y.1)∧y.2.length=fs.length∧kI y.2 (i*30000000+dsz ((e8 dl z.ds).take y.1))) (λy=>[(8,iN y.1)]) [(1,_),(2,_),(4,_),(5,_),(6,_),(7,_)] (λy=>[Vr b5 [iN (D+y.1),s14.val],Row s14 eI (cP y.2)]) _ (λy=>(e8 dl z.ds).length-y.1) ((0,S)) (h0:=?_) (k:=?_))))))))))
  ·try dsimp only
   exact⟨Yl _,rfl,hSl,by simpa [dsz] using hSb⟩
  rintro⟨kk,T⟩ ⟨hk,hT,hTl,hTb⟩
  try dsimp only[Yd,Ye]at*
  refine ws_ (ws_ (wr_ (e_ mv (k:=e_ mv (k:=e_ lnn (k:=e_ ilt (k:=on_ (qn_ (wi_ (k:=λh2=>?_) (m:=λh2=>?_))))))))))
  ·obtain⟨dd,sv,vs,hlk,hdk,hsv⟩:=hlf.get (i:=kk) (a8)
   have hdm:=xY (Yj hdk)
   obtain⟨g1,g2⟩:=kK (hzF.ok.vals _ hdm)
   have hvz:=zi hdm
   have hdd:=Gv hdk
   haveI hq3:Sl H sv eVl vs:=hsv
   have hTn:=Dp (fs:=fs) (S:=S) hdk
   rw[←hT]at hTn
   refine wk_ (qn_ (ws_ (wb_ (ws_ (wr_ (e_ fla (k:=e_ ldv (k:=e_ iad (k:=e_ fla (k:=sto (k:=on_ (qn_ (ws_ (?_))))))))))))))
   refine wr_ (?_)
   rw[show Row s14 eI (cP T)=Row s14 eI (cP (ig fs T (dd,vs) 0))from by rw[B8]]
   refine e_ asn (k:=on_ (qn_ (wb_ (wl2_ (Nat) (λy=>y≤fs.length) (λy=>[(9,iN y)]) [(1,_),(2,_),(4,_),(5,_),(6,_),(7,_),(8,_)] (λy=>[Row s14 eI (cP (ig fs T (dd,vs) y))]) _ (λy=>fs.length-y) (0) (h0:=?_) (k:=?_)))))
   ·try dsimp only
    exact Yl _
   rintro f hff
   try dsimp only[Yd,Ye]at*
   refine ws_ (ws_ (wr_ (e_ mv (k:=e_ fla (k:=e_ ldv (k:=e_ lnn (k:=e_ ilt (k:=on_ (qn_ (wi_ (k:=λh3=>?_) (m:=λh3=>?_)))))))))))
   ·have hfl2:f<fs.length:=by omega
    obtain⟨s9,hs9⟩:=gE T f
    have hrow:=eu (uK (fs:=fs) (d:=(dd,vs)) hs9)
    have hset:=sX (fs:=fs) (d:=(dd,vs)) hs9
    have hpl:=qx fs T (dd,vs) f
    have hil:(cP (ig fs T (dd,vs) f)).length=fs.length:=by rw[dJ,hpl,hTl]
    have hs9b:=hTb s9 (Yj hs9)
    have hfd:=jG fs f vs
    have hbig:s9+(dB fs f vs).length≤1000000000000000:=by
     have:i*30000000≤3000000*30000000:=Vc _ (a8)
     omega
    refine wk_ (qn_ (ws_ (wb_ (ws_ (?_)))))
    refine wD [7] (λk H=>(k=0→cY H b2 [fv.val])∧(k=4→Sl H s26 eD (z.l.filter λp=>!decide (p.1∈dl)))∧(k=5→Sl H s26 eD (z.l.filter λp=>!decide (p.1∈dl)))∧(k=6→Sl H s26 eD (z.l.filter λp=>!decide (p.1∈dl)))) (?_)
    refine aN 0 rfl (λH hH=>aW) (?_)
    refine aF 1 (k:=aF 2 (k:=aF 3 (k:=?_)))
    refine aN 4 rfl (λH hH=>by have hN:=hH.2.1 rfl;exact ixa) (?_)
    refine aN 5 rfl (λH hH=>by have hN:=hH.2.2.1 rfl;exact fle) (?_)
    refine aN 6 rfl (λH hH=>by have hN:=hH.2.2.2 rfl;exact lfl (hy:=hlk)) (?_)
    refine aS 7 rfl (dy (vs:= [_,_,_]) rfl (ER (k:=f) (vs:=vs) (a8) (a8) (a8) (λv hv=>by have:=(g2 v hv).1;omega) (a8))) ?_
    rintro _ _ ⟨s51,rfl,rfl⟩
    refine aF 8 (k:=aZ (qn_ (?_)))
    refine wD [12] (λk H=>(k=1→cY H b5 [.int .i64 (((D+kk:Nat):Int)+1),s14.val])∧(k=4→cY H b5 [.int .i64 (((D+kk:Nat):Int)+1),s14.val])∧(k=6→Sl H s14 eI (cP (ig fs T (dd,vs) f)))∧(k=7→Sl H s14 eI (cP (ig fs T (dd,vs) f)))∧(k=9→Sl H s51 eT (dB fs f vs))∧(k=11→Sl H s14 eI (cP (ig fs T (dd,vs) f)))) (aF 0 (k:=?_))
    refine aN 1 rfl (λH hH=>aw) (?_)
    refine aF 2 (k:=aF 3 (k:=?_))
    refine aN 4 rfl (λH hH=>aE) (?_)
    refine aF 5 (k:=?_)
    refine aN 6 rfl (λH hH=>by have hN:=hH.2.2.1 rfl;exact ixa) (?_)
    refine aN 7 rfl (λH hH=>by have hN:=hH.2.2.2.1 rfl;exact lel (hy:=hrow)) (?_)
    refine aF 8 (k:=?_)
    refine aN 9 rfl (λH hH=>by have hN:=hH.2.2.2.2.1 rfl;exact lnn) (?_)
    refine aN 10 rfl (λH hH=>evq iad (congrArg (Value.int .i64) (show _=((s9+(dB fs f vs).length:Nat):Int)from a8))) (?_)
    refine aN 11 rfl (λH hH=>by have hN:=hH.2.2.2.2.2 rfl;exact ixa) (?_)
    refine aS 12 rfl (dc (i:=f) rfl rfl rfl (a8)) ?_
    rintro _ _ ⟨rfl,rfl⟩
    rw[uV,hset]
    refine aZ (bn_ (qn_ (wr_ (e_ mv (k:=e_ iad (k:=e_ asn (k:=on_ (?_))))))))
    refine ln_ (f+1) (k:=?_)
    try dsimp only
    omega
   obtain rfl:f=T.length:=a8
   rw[uL,←hTn]
   refine we_ (qe_ (le_ (bh_ (bn_ (qn_ (wr_ (e_ mv (k:=e_ iad (k:=e_ asn (k:=on_ (?_)))))))))))
   refine ln_ ((kk+1,oh fs S ((e8 dl z.ds).take (kk+1)))) (k:=?_)
   try dsimp only
   exact⟨a8,rfl,by rw[tW];exact hSl,by rw[hTn,yz hdk,←Vz];exact rV hTb⟩
  obtain rfl:kk=(e8 dl z.ds).length:=a8
  rw[Xk]at hT hTb
  refine we_ (qe_ (le_ (bh_ (bn_ (qn_ (wr_ (e_ mv (k:=e_ iad (k:=e_ asn (k:=on_ (?_)))))))))))
  refine ln_ ((i+1,D+(e8 dl z.ds).length,T)) (k:=?_)
  try dsimp only
  exact⟨a8,by rw[hD,yJ hzi],by rw[hT,hSs,uB hzi],aK,λs hs=>by have:=hTb s hs;rw[Vg];omega⟩
 obtain rfl:i=zs.length:=a8
 rw[Xk]at hD hSs
 rw[hD,hSs]
 refine we_ (qe_ (le_ (bh_ (qn_ (ws_ (wr_ (e_ lds (k:=sto (k:=on_ (qn_ (wt_ (rT (k:=?_)))))))))))))
 exact⟨_,hsb,s14,rfl,rfl⟩
theorem fu {G:cJ}{H:cG}{fv pv:SV}{fs:List FV}{dl:List Int}{zs:List PZ} [hf:Sl H fv eF fs] [hr:Sl H pv ePt (zs.map pzP)] (hz:∀z∈zs,PzI H fs dl z) (hp:∀z∈zs,PzF fs dl z) (hfl:fs.length≤1000) (hn:zs.length≤3000000):SC G prog 8 [.agg #[fv.val],pv.val] H (λv H'=>∃s:SV,v=.agg #[iN (ry dl zs),s.val]∧H'=Row s eI (cP (mi fs dl (List.replicate fs.length 0) zs))::H):=by
 have hml:(zs.map pzP).length=zs.length:=Yh ..
 have hrep:(List.replicate fs.length (0:Int))=cP (mi fs dl (List.replicate fs.length 0) (zs.take 0)):=by rw[cP];simp[mi]
 refine sWk func8 ?_
 refine ws_ (wr_ (bxx (k:=λb2=>?_)))
 refine alc (k:=λb4=>?_)
 refine on_ (qn_ (ws_ (wr_ (e_ fla (k:=e_ ldv (k:=e_ lnn (k:=?_)))))))
 refine s_ (fq eI 0 rfl rfl _ _ rfl rfl rfl (a8) (a8) (a8)) (k:=?_)
 rintro _ _ ⟨s14,rfl,hs14n,hs14c,rfl⟩
 refine e_ (bld [(1,_)]) (k:=alc (k:=λb5=>?_))
 refine sto (k:=on_ (qn_ (ws_ (ws_ (wr_ (?_))))))
 rw[hrep]
 refine e_ mv (k:=e_ lnn (k:=e_ mv (k:=on_ (qn_ (wb_ (wl2_ (Nat×Nat×(List Nat)) (λy=>y.1≤zs.length∧y.2.1=ry dl (zs.take y.1)∧y.2.2=mi fs dl (List.replicate fs.length 0) (zs.take y.1)∧y.2.1≤y.1*4096∧kI y.2.2 (y.1*30000000)) (λy=>[(18,iN y.1)]) [(4,_),(5,_),(16,_),(17,_)] (λy=>[Vr b5 [iN y.2.1,s14.val],Row s14 eI (cP y.2.2)]) _ (λy=>zs.length-y.1) ((0,0,mi fs dl (List.replicate fs.length 0) (zs.take 0))) (h0:=?_) (k:=?_)))))))
 ·try dsimp only
  exact⟨Yl _,rfl,rfl,Xj _,λs hs=>by simp[mi]at hs;omega⟩
 rintro⟨i,D,S⟩ ⟨hi,hD,hSs,hDb,hSb⟩
 try dsimp only[Yd,Ye]at*
 refine ws_ (wr_ (e_ ilt (k:=on_ (qn_ (ws_ (wi_ (k:=λh1=>?_) (m:=λh1=>?_)))))))
 ·obtain⟨z,hzi⟩:=gE zs i
  have hzr:(zs.map pzP)[i]? =some (z.pt.p,0):=by rw[Xd,hzi];all_goals rfl
  have hzI:=hz z (Yj hzi)
  have hzF:=hp z (Yj hzi)
  have hfew:=hzF.ok.few
  have hdz:=hzF.ok.size
  have hcnt:=hzF.cnt
  haveI hq1:dT H z.pt (pzQ fs z):=hzI.pin
  have hlv:=nx dl z.ds
  have hlz:=pT dl z.ds
  have hSl:S.length=fs.length:=by rw[hSs,pe,Xe]
  have hlive:(pzQ fs z).ds.length-z.pt.cnt=(e8 dl z.ds).length:=by show z.ds.length-z.pt.cnt=_;omega
  have hnx:=λk=>CF hzF.dead z.ds.length k (a8)
  refine wk_ (qn_ (ws_ (wb_ (ws_ (wr_ (e_ ixa (k:=e_ (lel (hy:=hzr)) (k:=e_ asn (k:=on_ (qn_ (ws_ (?_))))))))))))
  refine wD [6] (λk H=>(k=1→cY H b5 [iN D,s14.val])∧(k=3→dT H z.pt (pzQ fs z))) (aF 0 (k:=?_))
  refine aN 1 rfl (λH hH=>aw) (?_)
  refine aF 2 (k:=?_)
  refine cO 3 rfl rfl (aa) rfl (λH hH=>by have hN:dT H z.pt (pzQ fs z):=hH.2 rfl;exact v1_ (KU (a:=z.pt) (q:=pzQ fs z) (by show z.pt.cnt≤z.ds.length;omega) (by show z.ds.length≤1048576;omega))) (?_)
  refine aN 4 rfl (λH hH=>evq iad (congrArg (Value.int .i64) (show _=((D+(e8 dl z.ds).length:Nat):Int)from by rw[hlive];omega))) (?_)
  refine aF 5 (k:=?_)
  refine aS 6 rfl (db rfl rfl rfl) ?_
  rintro _ _ ⟨rfl,rfl⟩
  refine aZ (qn_ (jS (Nat×Bool) (λy=>(y.2=true→∃x,z.ds[y.1]? =some x∧e8 dl z.ds=x::e8 dl (z.ds.drop (y.1+1)))∧(y.2=false→e8 dl z.ds= [])) (λy=>[(8,iN y.1),(9,.bool y.2)]) [8,9,28,29,30,31,32] ?_ ?_))
  ·refine wr_ (e_ mv (k:=?_))
   refine c2_ rfl (sB (a:=z.pt) (q:=pzQ fs z) hzF.pt (ae)) (k:=?_)
   rintro _ _ ⟨(⟨d0,hd0,rfl⟩|⟨hd0,rfl⟩),rfl⟩
   ·obtain⟨x0,hx0,_,hbx0,hlx0⟩:=(hnx 0).1 d0 hd0
    rw[Vi]at hlx0
    refine e_ mv (k:=e_ exr (k:=e_ exr (k:=e_ asn (k:=e_ asn (k:=on_ (jnE (d0,true) (q:=?_)))))))
    exact⟨λ_=>⟨x0,hx0,hlx0⟩,λh=>(aU)⟩
   have hlx0:=(hnx 0).2 hd0
   rw[Vi]at hlx0
   refine e_ mv (k:=e_ exr (k:=e_ exr (k:=e_ asn (k:=e_ asn (k:=on_ (jnE (0,false) (q:=?_)))))))
   exact⟨λh=>(aU),λ_=>hlx0⟩
  rintro⟨d,b⟩ ⟨hb1,hb0⟩
  try dsimp only at*
  dsimp only[Yd,Ye]
  refine wb_ (wl2_ (Nat×Bool×(List Nat)×Nat×Nat) (λy=>(y.2.1=true→y.1=y.2.2.2.2∧∃x,z.ds[y.1]? =some x∧oh fs S (e8 dl z.ds)=oh fs y.2.2.1 (x::e8 dl (z.ds.drop (y.1+1))))∧(y.2.1=false→oh fs S (e8 dl z.ds)=y.2.2.1)∧y.2.2.1.length=fs.length∧kI y.2.2.1 y.2.2.2.1∧y.2.2.2.1+dsz (z.ds.drop y.2.2.2.2)≤(i+1)*30000000∧y.2.2.2.2≤z.ds.length) (λy=>[(8,iN y.1),(9,.bool y.2.1)]) [(4,_),(5,_),(7,_),(16,_),(17,_),(18,_)] (λy=>[Row s14 eI (cP y.2.2.1)]) _ (λy=>z.ds.length-y.2.2.2.2) ((d,b,S,i*30000000,if b=true then d else z.ds.length)) (h0:=?_) (k:=?_))
  ·try dsimp only
   refine⟨λh=>?_,λh=>?_,hSl,hSb,?_,?_⟩
   ·obtain⟨x,h1,h2⟩:=hb1 h
    exact⟨(if_pos h).symm,x,h1,by rw[←h2]⟩
   ·rw[hb0 h];all_goals rfl
   ·have:=Ae z.ds (if b=true then d else z.ds.length)
    rw[Vg];omega
   ·cases hbb:b with
    |true=>obtain⟨x,h1,_⟩:=hb1 hbb;have:=(Yk.1 h1).1;simp;omega
    |false=>simp
  rintro⟨d2,c,T,M,e⟩ ⟨hc1,hc0,hTl,hTb,hM,hel⟩
  try dsimp only[Yd,Ye]at*
  refine ws_ (ws_ (wr_ (e_ mv (k:=on_ (qn_ (wi_ (k:=λh2=>?_) (m:=λh2=>?_)))))))
  ·have hct:c=true:=h2
   obtain⟨hde,x,hx,hadd⟩:=hc1 hct
   subst hct
   subst hde
   rw[vG]at hadd
   have hxl:=(Yk.1 hx).1
   have hdr:dsz (z.ds.drop d2)=vsz x.2+dsz (z.ds.drop (d2+1)):=by rw[fE hx];simp[dsz]
   have hvx:=zi (Yj hx)
   have hil0:(cP T).length=fs.length:=by rw[dJ,hTl]
   have hbig:(i+1)*30000000≤3000000*30000000:=Vc _ (a8)
   refine wk_ (qn_ (ws_ (wb_ (ws_ (wr_ (e_ fla (k:=e_ ldv (k:=e_ lnn (k:=?_)))))))))
   rw[show Row s14 eI (cP T)=Row s14 eI (cP (ig fs T x 0))from by rw[B8]]
   refine e_ mv (k:=on_ (qn_ (wb_ (wl2_ (Nat) (λy=>y≤fs.length) (λy=>[(44,iN y)]) [(4,_),(5,_),(7,_),(8,_),(16,_),(17,_),(18,_),(43,_)] (λy=>[Row s14 eI (cP (ig fs T x y))]) _ (λy=>fs.length-y) (0) (h0:=?_) (k:=?_)))))
   ·try dsimp only
    exact Yl _
   rintro f hff
   try dsimp only[Yd,Ye]at*
   refine ws_ (wr_ (e_ ilt (k:=on_ (qn_ (ws_ (wi_ (k:=λh3=>?_) (m:=λh3=>?_)))))))
   ·have hfl2:f<fs.length:=by omega
    obtain⟨s9,hs9⟩:=gE T f
    have hrow:=eu (uK (fs:=fs) (d:=x) hs9)
    have hset:=sX (fs:=fs) (d:=x) hs9
    have hpl:=qx fs T x f
    have hil:(cP (ig fs T x f)).length=fs.length:=by rw[dJ,hpl,hTl]
    have hs9b:=hTb s9 (Yj hs9)
    have hfd:=jG fs f x.2
    have hlen:(et (pzQ fs z).fs (pzQ fs z).ds f).getD d2 0=(dB fs f x.2).length:=by
     show((z.ds.map λd=>(dB fs f d.2).length)).getD d2 0=_
     rw[Xm,Xd,hx];all_goals rfl
    refine wk_ (qn_ (ws_ (wb_ (ws_ (wr_ (e_ mv (k:=e_ asn (k:=on_ (qn_ (?_))))))))))
    refine wD [14] (λk H=>(k=1→cY H b5 [iN (D+(e8 dl z.ds).length),s14.val])∧(k=3→Sl H s14 eI (cP (ig fs T x f)))∧(k=4→Sl H s14 eI (cP (ig fs T x f)))∧(k=8→cY H z.pt.p [pA z.pt.g,pA z.pt.d])∧(k=11→dT H z.pt (pzQ fs z))∧(k=13→Sl H s14 eI (cP (ig fs T x f)))) (aF 0 (k:=?_))
    refine aN 1 rfl (λH hH=>aw) (?_)
    refine aF 2 (k:=?_)
    refine aN 3 rfl (λH hH=>by have hN:=hH.2.1 rfl;exact ixa) (?_)
    refine aN 4 rfl (λH hH=>by have hN:=hH.2.2.1 rfl;exact lel (hy:=hrow)) (?_)
    refine aF 5 (k:=aF 6 (k:=aF 7 (k:=?_)))
    refine aN 8 rfl (λH hH=>by have hN:=hH.2.2.2.1 rfl;exact ldv) (?_)
    refine aF 9 (k:=aF 10 (k:=?_))
    refine cO 11 rfl rfl (aa) rfl (λH hH=>by have hN:dT H z.pt (pzQ fs z):=hH.2.2.2.2.1 rfl;exact v3_ (Nf (a:=z.pt) (q:=pzQ fs z) (f:=f) (d:=d2) hfl2 hxl)) (?_)
    refine aN 12 rfl (λH hH=>evq iad (congrArg (Value.int .i64) (show _=((s9+(dB fs f x.2).length:Nat):Int)from by rw[hlen];omega))) (?_)
    refine aN 13 rfl (λH hH=>by have hN:=hH.2.2.2.2.2 rfl;exact ixa) (?_)
    refine aS 14 rfl (dc (i:=f) rfl rfl rfl (a8)) ?_
    rintro _ _ ⟨rfl,rfl⟩
    rw[uV,hset]
    refine aZ (bn_ (qn_ (wr_ (e_ iad (k:=e_ mv (k:=on_ (?_)))))))
    refine ln_ (f+1) (k:=?_)
    try dsimp only
    omega
   obtain rfl:f=T.length:=a8
   rw[uL]
   refine we_ (qe_ (le_ (bh_ (bn_ (qn_ (wr_ (e_ mv (k:=e_ mv (k:=e_ iad (k:=?_))))))))))
   refine c2_ rfl (sB (a:=z.pt) (q:=pzQ fs z) (i0:=((d2+1:Nat):Int)) hzF.pt (a8)) (k:=?_)
   rintro _ _ ⟨(⟨d3,hd3,rfl⟩|⟨hd3,rfl⟩),rfl⟩
   ·obtain⟨x3,hx3,hk3,_,hlx3⟩:=(hnx (d2+1)).1 d3 hd3
    refine e_ mv (k:=e_ exr (k:=e_ exr (k:=e_ asn (k:=e_ asn (k:=on_ (?_))))))
    refine ln_ ((d3,true,nI fs T x,M+vsz x.2,d3)) (k:=?_)
    try dsimp only
    refine⟨λ_=>⟨rfl,x3,hx3,by rw[hadd,hlx3]⟩,λh=>absurd h (ae),by rw[tV];exact hTl,rV hTb,?_,?_⟩
    ·have h1:=pU z.ds hk3
     omega
    ·have:=(Yk.1 hx3).1;omega
   have hlx3:=(hnx (d2+1)).2 hd3
   refine e_ mv (k:=e_ exr (k:=e_ exr (k:=e_ asn (k:=e_ asn (k:=on_ (?_))))))
   refine ln_ ((0,false,nI fs T x,M+vsz x.2,z.ds.length)) (k:=?_)
   try dsimp only
   refine⟨λh=>absurd h (ae),λ_=>by rw[hadd,hlx3];all_goals rfl,by rw[tV];exact hTl,rV hTb,?_,Xj _⟩
   have h1:dsz (z.ds.drop z.ds.length)=0:=by rw[X4];all_goals rfl
   omega
  have hcf:c=false:=by have h9:=h2;simpa using h9
  have hadd:=hc0 hcf
  have hMf:M≤(i+1)*30000000:=a8
  refine we_ (qe_ (le_ (bh_ (bn_ (qn_ (wr_ (e_ iad (k:=e_ mv (k:=on_ (?_))))))))))
  refine ln_ ((i+1,D+(e8 dl z.ds).length,T)) (k:=?_)
  try dsimp only
  exact⟨a8,by rw[hD,yJ hzi],by rw[←hadd,hSs,uB hzi],aK,λs hs=>Xi (hTb s hs) hMf⟩
 obtain rfl:i=zs.length:=a8
 rw[Xk]at hD hSs
 rw[hD,hSs]
 refine we_ (qe_ (le_ (bh_ (qn_ (ws_ (wr_ (e_ lds (k:=sto (k:=on_ (qn_ (wt_ (rT (k:=?_)))))))))))))
 exact⟨_,hsb,s14,rfl,rfl⟩
def uj (D:Nat) (S:List Nat) (f:Int):Nat:=if f<0 then 0 else S.getD f.toNat 0/D
theorem rU {S:List Nat}{f:Int}(h0:¬f<0) (h1:¬(S.length:Int)≤f):∃k:Nat,f=(k:Int)∧k<S.length∧(cP S)[k]? =some ((S.getD k 0:Nat):Int):=by
 refine⟨f.toNat,a8,a8,?_⟩
 have:f.toNat<S.length:=a8
 rw[Xm,Yi this]
 exact eu (Yi this)
theorem yS {D:Nat}{S:List Nat}{f:Int}(h:D<1∨f<0∨(S.length:Int)≤f∨S.getD f.toNat 0<1):uj D S f=0:=by
 unfold uj
 split
 ·rfl
 ·rcases h with h|h|h|h
  ·rw[show D=0 from a8,Nat.div_zero]
  ·omega
  ·rw[Xm,Ve (a8)];simp
  ·rw[show S.getD f.toNat 0=0 from a8,Nat.zero_div]
theorem Bu {S:List Nat}{M:Nat}(h:kI S M) (k:Nat):S.getD k 0≤M:=by
 rw[Xm]
 cases hk:S[k]? with
 |none=>exact Yl _
 |some q=>exact h q (Yj hk)
theorem PD {G:cJ}{H:cG}{s:SV}{D:Nat}{S:List Nat}{f:Int} [hs:Sl H s eI (cP S)] (hSb:kI S 1000000000000000000):SC G prog 10 [.agg #[iN D,s.val],.int .i64 f] H (λv H'=>v=iN (uj D S f)∧H'=H):=by
 have hil:(cP S).length=S.length:=dJ _
 refine sWk func10 ?_
 refine ws_ (wr_ (bxx (k:=λb2=>?_)))
 refine e_ asn (k:=on_ (qn_ (ws_ (ws_ (wr_ (e_ fla (k:=e_ ldv (k:=e_ ilt (k:=e_ mv (k:=dz 3 11 (k:=λh1=>eg_ mv (k:=eg_ ilt (k:=e_ pkf (k:=on_ (edq))))) (q:=e_ mv (k:=dz 6 18 (k:=λh2=>eg_ mv (k:=eg_ fla (k:=eg_ ldv (k:=eg_ lnn (k:=eg_ ige (k:=e_ pkf (k:=on_ (edq)))))))) (q:=e_ mv (k:=?_))))))))))))))
 refine dz 7 26 (c:=decide (((S.getD f.toNat 0:Nat):Int)<1)) (k:=λh4=>?_) (q:=?_)
 ·have hg:=h4
  obtain⟨k,rfl,hkl,hrow⟩:=rU (S:=S) (f:=f) (a8) (a8)
  refine eg_ fla (k:=eg_ ldv (k:=eg_ mv (k:=eg_ ixa (k:=eg_ (lel (hy:=hrow)) (k:=eg_ ilt (k:=e_ pkf (k:=on_ (edq))))))))
 refine on_ (qn_ (wi_ (k:=λh5=>?_) (m:=λh5=>?_)))
 ·have hz:uj D S f=0:=yS (by have h9:=h5;omega)
  refine ws_ (wr_ (e_ asn (k:=on_ (qn_ (wt_ (qr_ (rT (k:=?_))))))))
  exact⟨_,hsb,by rw[hz];all_goals rfl,rfl⟩
 have hno:=h5
 obtain⟨k,rfl,hkl,hrow⟩:=rU (S:=S) (f:=f) (a8) (a8)
 have hSk:S.getD k 0≤1000000000000000000:=Bu hSb k
 have hav:uj D S (k:Int)=S.getD k 0/D:=by unfold uj;rw[if_neg (a8),Uv]
 refine wk_ (qn_ (ws_ (?_)))
 refine cZ cN (as_ 0 (q:=fla) (k:=as_ 1 (q:=ldv) (k:=as_ 2 (q:=mv) (k:=as_ 3 (q:=ixa) (k:=as_ 4 (q:=lel (hy:=hrow)) (k:=as_ 5 (q:=fla) (k:=as_ 6 (q:=ldv) (k:=?_))))))))
 refine cO 7 rfl rfl (aa) rfl (df (fH rfl rfl (S.getD k 0) D rfl rfl (a8) (an))) (?_)
 refine as_ 8 (q:=asn) (k:=az_ (k:=qn_ (wt_ (rT (k:=?_)))))
 exact⟨_,hsb,by rw[hav];all_goals rfl,rfl⟩
theorem PR {G:cJ}{H:cG}{s:SV}{D:Nat}{S:List Nat}{f:Int} [hs:Sl H s eI (cP S)] (hSb:kI S 1000000000000000000):SC G prog 11 [.agg #[iN D,s.val],.int .i64 f] H (λv H'=>v=iN (uj D S f)∧H'=H):=by
 have hil:(cP S).length=S.length:=dJ _
 refine sWk func11 ?_
 refine ws_ (wr_ (bxx (k:=λb2=>?_)))
 refine e_ asn (k:=on_ (qn_ (ws_ (ws_ (wr_ (e_ fla (k:=e_ ldv (k:=e_ ilt (k:=e_ mv (k:=dz 3 11 (k:=λh1=>eg_ mv (k:=eg_ ilt (k:=e_ pkf (k:=on_ (edq))))) (q:=e_ mv (k:=dz 6 18 (k:=λh2=>eg_ mv (k:=eg_ fla (k:=eg_ ldv (k:=eg_ lnn (k:=eg_ ige (k:=e_ pkf (k:=on_ (edq)))))))) (q:=e_ mv (k:=?_))))))))))))))
 refine dz 7 26 (c:=decide (((S.getD f.toNat 0:Nat):Int)<1)) (k:=λh4=>?_) (q:=?_)
 ·have hg:=h4
  obtain⟨k,rfl,hkl,hrow⟩:=rU (S:=S) (f:=f) (a8) (a8)
  refine eg_ fla (k:=eg_ ldv (k:=eg_ mv (k:=eg_ ixa (k:=eg_ (lel (hy:=hrow)) (k:=eg_ ilt (k:=e_ pkf (k:=on_ (edq))))))))
 refine on_ (qn_ (wi_ (k:=λh5=>?_) (m:=λh5=>?_)))
 ·have hz:uj D S f=0:=yS (by have h9:=h5;omega)
  refine ws_ (wr_ (e_ asn (k:=on_ (qn_ (wt_ (qr_ (rT (k:=?_))))))))
  exact⟨_,hsb,by rw[hz];all_goals rfl,rfl⟩
 have hno:=h5
 obtain⟨k,rfl,hkl,hrow⟩:=rU (S:=S) (f:=f) (a8) (a8)
 have hSk:S.getD k 0≤1000000000000000000:=Bu hSb k
 have hav:uj D S (k:Int)=S.getD k 0/D:=by unfold uj;rw[if_neg (a8),Uv]
 refine wk_ (qn_ (ws_ (?_)))
 refine cZ cN (as_ 0 (q:=fla) (k:=as_ 1 (q:=ldv) (k:=as_ 2 (q:=mv) (k:=as_ 3 (q:=ixa) (k:=as_ 4 (q:=lel (hy:=hrow)) (k:=as_ 5 (q:=fla) (k:=as_ 6 (q:=ldv) (k:=?_))))))))
 refine cO 7 rfl rfl (aa) rfl (df (fH rfl rfl (S.getD k 0) D rfl rfl (a8) (an))) (?_)
 refine as_ 8 (q:=asn) (k:=az_ (k:=qn_ (wt_ (rT (k:=?_)))))
 exact⟨_,hsb,by rw[hav];all_goals rfl,rfl⟩
def tt (fs:List FV) (f:Int) (s:ByteArray) (d:Doc):Bool:=(iO fs f d.2).any λt=>decide (dQ t.text=s)
def dfI (fs:List FV) (dl:List Int) (f:Int) (s:ByteArray) (ds:List Doc):Nat:=(e8 dl ds).countP (tt fs f s)
def dfZ (fs:List FV) (dl:List Int) (f:Int) (s:ByteArray) (zs:List PZ):Nat:=(zs.map λz=>dfI fs dl f s z.ds).sum
theorem BD {fs:List FV}{dl:List Int}{f:Int}{s:ByteArray}{zs:List PZ}{i:Nat}{z:PZ}(h:zs[i]? =some z):dfZ fs dl f s (zs.take (i+1))=dfZ fs dl f s (zs.take i)+dfI fs dl f s z.ds:=by
 rw[cL h];simp[dfZ]
theorem GG (fs:List FV) (dl:List Int) (f:Int) (s:ByteArray) (ds:List Doc):dfI fs dl f s ds≤ds.length:=Xi List.countP_le_length (nx dl ds)
theorem vy {α:Type}{p:α→Bool}{l:List α}{k:Nat}{d:α}(h:l[k]? =some d):(l.take (k+1)).countP p=(l.take k).countP p+if p d=true then 1 else 0:=by
 rw[cL h,List.countP_append,List.countP_cons,List.countP_nil];simp
theorem GP {α:Type}{p:α→Bool}{l:List α}{k:Nat}{d:α}(h:l[k]? =some d):(l.take (k+1)).any p=((l.take k).any p ||p d):=by
 rw[cL h,List.any_append];simp
theorem A6 (fs:List FV) (f:Int) (vs:List Val):(iO fs f vs).length≤vsz vs:=by
 unfold iO
 split
 ·exact Yl _
 ·exact jG ..
theorem NZ {G:cJ}{H:cG}{fv rv:SV}{fs:List FV}{dl:List Int}{zs:List PZ}{f:Int}{s:ByteArray} [hf:Sl H fv eF fs] [hr:Sl H rv eRp (zs.map (pzR fv))] (hz:∀z∈zs,PzI H fs dl z) (hp:∀z∈zs,PzF fs dl z) (hfl:fs.length≤1000) (hn:zs.length≤3000000):SC G prog 12 [rv.val,.int .i64 f,.string s] H (λv H'=>v=iN (dfZ fs dl f s zs)∧H'=H):=by
 have hml:(zs.map (pzR fv)).length=zs.length:=Yh ..
 refine sWk func12 ?_
 refine ws_ (wr_ (e_ asn (k:=on_ (qn_ (ws_ (wr_ (e_ asn (k:=on_ (qn_ (ws_ (ws_ (wr_ (e_ asn (k:=?_))))))))))))))
 refine on_ (qn_ (wb_ (wl2_ (Nat×Nat) (λy=>y.1≤zs.length∧y.2=dfZ fs dl f s (zs.take y.1)∧y.2≤y.1*4096) (λy=>[(7,iN y.2),(8,iN y.1)]) [(0,_),(1,_),(2,_)] (λy=>[]) _ (λy=>zs.length-y.1) ((0,0)) (h0:=?_) (k:=?_))))
 ·try dsimp only
  exact⟨Yl _,rfl,Xj _⟩
 rintro⟨i,D⟩ ⟨hi,hD,hDb⟩
 try dsimp only[Yd,Ye]at*
 refine ws_ (ws_ (wr_ (e_ mv (k:=e_ mv (k:=e_ lnn (k:=e_ ilt (k:=on_ (qn_ (wi_ (k:=λh1=>?_) (m:=λh1=>?_))))))))))
 ·obtain⟨z,hzi⟩:=gE zs i
  have hzr:(zs.map (pzR fv))[i]? =some (fv,z.lv,z.xv):=by rw[Xd,hzi];all_goals rfl
  have hzI:=hz z (Yj hzi)
  have hzF:=hp z (Yj hzi)
  have hfew:=hzF.ok.few
  have hdz:=hzF.ok.size
  have hll:=hzI.di.1
  haveI hq1:Sl H z.lv eD z.l:=hzI.lv
  haveI hq2:Sl H z.xv eBo (z.ds.map (ff dl)):=hzI.xv
  have hlf:=qN (dl:=dl) hzI.di
  have hlfl:=hlf.1
  have hlv:=nx dl z.ds
  have hdfl:=GG fs dl f s z.ds
  refine wk_ (qn_ (ws_ (wb_ (ws_ (wr_ (e_ mv (k:=e_ mv (k:=e_ ixa (k:=e_ (od (hy:=hzr)) (k:=?_))))))))))
  refine c1_ rfl (EP (hzI.di.less (hsb)) (a8)) (k:=?_)
  rintro _ _ ⟨s24,rfl,rfl⟩
  refine e_ asn (k:=on_ (qn_ (ws_ (wr_ (e_ asn (k:=on_ (qn_ (wb_ (wl2_ (Nat×Nat) (λy=>y.1≤(e8 dl z.ds).length∧y.2=D+((e8 dl z.ds).take y.1).countP (tt fs f s)∧y.2≤D+y.1) (λy=>[(7,iN y.2),(10,iN y.1)]) [(0,_),(1,_),(2,_),(8,_),(9,_)] (λy=>[]) _ (λy=>(e8 dl z.ds).length-y.1) ((0,D)) (h0:=?_) (k:=?_))))))))))
  ·try dsimp only
   exact⟨Yl _,rfl,Xj _⟩
  rintro⟨k,E⟩ ⟨hk,hE,hEb⟩
  try dsimp only[Yd,Ye]at*
  refine ws_ (ws_ (wr_ (e_ mv (k:=e_ mv (k:=e_ lnn (k:=e_ ilt (k:=on_ (qn_ (wi_ (k:=λh2=>?_) (m:=λh2=>?_))))))))))
  ·obtain⟨dd,sv,vs,hlk,hdk,hsv⟩:=hlf.get (i:=k) (a8)
   have hdm:=xY (Yj hdk)
   obtain⟨g1,g2⟩:=kK (hzF.ok.vals _ hdm)
   have hvz:=zi hdm
   haveI hq3:Sl H sv eVl vs:=hsv
   have hct:=vy (p:=tt fs f s) hdk
   have g1':vs.length≤64:=g1
   have hvz':vsz vs≤dsz z.ds:=hvz
   have hfi:=A6 fs f vs
   refine wk_ (qn_ (ws_ (wb_ (ws_ (?_)))))
   refine wD [11] (λk H=>(k=2→Sl H rv eRp (zs.map (pzR fv)))∧(k=3→Sl H rv eRp (zs.map (pzR fv)))∧(k=4→Sl H rv eRp (zs.map (pzR fv)))∧(k=8→Sl H s24 eD (z.l.filter λp=>!decide (p.1∈dl)))∧(k=9→Sl H s24 eD (z.l.filter λp=>!decide (p.1∈dl)))∧(k=10→Sl H s24 eD (z.l.filter λp=>!decide (p.1∈dl)))) (aF 0 (k:=aF 1 (k:=?_)))
   refine aN 2 rfl (λH hH=>by have hN:=hH.1 rfl;exact ixa) (?_)
   refine aN 3 rfl (λH hH=>by have hN:=hH.2.1 rfl;exact fle) (?_)
   refine aN 4 rfl (λH hH=>by have hN:=hH.2.2.1 rfl;exact PV (l:=[fv.val,z.lv.val,z.xv.val]) (hy:=hzr)) (?_)
   refine aF 5 (k:=aF 6 (k:=aF 7 (k:=?_)))
   refine aN 8 rfl (λH hH=>by have hN:=hH.2.2.2.1 rfl;exact ixa) (?_)
   refine aN 9 rfl (λH hH=>by have hN:=hH.2.2.2.2.1 rfl;exact fle) (?_)
   refine aN 10 rfl (λH hH=>by have hN:=hH.2.2.2.2.2 rfl;exact lfl (hy:=hlk)) (?_)
   refine aS 11 rfl (dy (vs:= [_,_,_]) rfl (Iv (f:=f) (vs:=vs) hfl (a8) (λv hv=>by have:=(g2 v hv).1;omega) (a8))) ?_
   rintro _ _ ⟨s42,rfl,rfl⟩
   refine aF 12 (k:=aZ (qn_ (ws_ (wr_ (e_ asn (k:=on_ (qn_ (ws_ (ws_ (wr_ (e_ asn (k:=on_ (qn_ (?_))))))))))))))
   refine wb_ (wl2_ (Nat×Bool) (λy=>y.1≤(iO fs f vs).length∧y.2=((iO fs f vs).take y.1).any λt=>decide (dQ t.text=s)) (λy=>[(12,.bool y.2),(13,iN y.1)]) [(0,_),(1,_),(2,_),(7,_),(8,_),(9,_),(10,_),(11,_)] (λy=>[]) _ (λy=>(iO fs f vs).length-y.1) ((0,false)) (h0:=?_) (k:=?_))
   ·try dsimp only
    exact⟨Yl _,rfl⟩
   rintro⟨j,b⟩ ⟨hj,hb⟩
   try dsimp only[Yd,Ye]at*
   refine ws_ (ws_ (wr_ (e_ mv (k:=e_ mv (k:=e_ lnn (k:=e_ ilt (k:=on_ (qn_ (wi_ (k:=λh3=>?_) (m:=λh3=>?_))))))))))
   ·obtain⟨tk,htk⟩:=gE (iO fs f vs) j
    have han:=GP (p:=λt:Tok=>decide (dQ t.text=s)) htk
    refine wk_ (qn_ (ws_ (wb_ (ws_ (wr_ (e_ mv (k:=e_ mv (k:=e_ ixa (k:=e_ fle (k:=e_ (lfl (hy:=htk)) (k:=e_ mv (k:=e_ np (k:=on_ (?_))))))))))))))
    refine qn_ (wi_ (k:=λh4=>?_) (m:=λh4=>?_))
    ·have hyes:dQ tk.text=s:=by have h9:=h4;first|exact h9|exact iw.1 h9
     refine wr_ (e_ asn (k:=on_ (bn_ (qn_ (wr_ (e_ mv (k:=e_ iad (k:=e_ asn (k:=on_ (?_))))))))))
     refine ln_ ((j+1,true)) (k:=?_)
     try dsimp only
     exact⟨a8,by rw[han,Ys hyes,Bool.or_true]⟩
    have hno:¬dQ tk.text=s:=by have h9:=h4;first|exact h9|exact λh=>h9 (congrArg cF h)
    refine wk_ (bn_ (qn_ (wr_ (e_ mv (k:=e_ iad (k:=e_ asn (k:=on_ (?_))))))))
    refine ln_ ((j+1,b)) (k:=?_)
    try dsimp only
    exact⟨a8,by rw[han,Yr hno,Bool.or_false];exact hb⟩
   obtain rfl:j=(iO fs f vs).length:=a8
   rw[Xk]at hb
   refine we_ (qe_ (le_ (bh_ (qn_ (ws_ (wr_ (e_ mv (k:=on_ (qn_ (wi_ (k:=λh5=>?_) (m:=λh5=>?_)))))))))))
   ·have hbt:tt fs f s (dd,vs)=true:=by have h9:=h5;rw[←h9];exact hb.symm
    rw[if_pos hbt]at hct
    refine wr_ (e_ mv (k:=e_ iad (k:=e_ asn (k:=on_ (bn_ (qn_ (wr_ (e_ mv (k:=e_ iad (k:=e_ asn (k:=on_ (?_))))))))))))
    refine ln_ ((k+1,E+1)) (k:=?_)
    try dsimp only
    exact⟨a8,a8,a8⟩
   have hbt:¬tt fs f s (dd,vs)=true:=by have h9:b=false:=h5;rw[h9]at hb;intro h8;rw[tt,←hb]at h8;cases h8
   rw[if_neg hbt]at hct
   refine wk_ (bn_ (qn_ (wr_ (e_ mv (k:=e_ iad (k:=e_ asn (k:=on_ (?_))))))))
   refine ln_ ((k+1,E)) (k:=?_)
   try dsimp only
   exact⟨a8,a8,a8⟩
  obtain rfl:k=(e8 dl z.ds).length:=a8
  rw[Xk]at hE
  refine we_ (qe_ (le_ (bh_ (bn_ (qn_ (wr_ (e_ mv (k:=e_ iad (k:=e_ asn (k:=on_ (?_)))))))))))
  refine ln_ ((i+1,E)) (k:=?_)
  try dsimp only
  exact⟨a8,by rw[BD hzi,hE,hD];all_goals rfl,aK⟩
 obtain rfl:i=zs.length:=a8
 rw[Xk]at hD
 refine we_ (qe_ (le_ (bh_ (qn_ (ws_ (wr_ (e_ mv (k:=e_ asn (k:=on_ (qn_ (wt_ (rT (k:=?_)))))))))))))
 exact⟨_,hsb,by rw[←hD];all_goals rfl,rfl⟩
def tQ (fs:List FV) (ds:List Doc) (f:Int) (s:ByteArray):List Po:=if f<0∨((fs.length:Nat):Int)≤f then []else m6 fs ds f.toNat s
theorem Ed {G:cJ}{H:cG}{a:PtA}{q:PtD}{f:Int}{s:ByteArray} [hg:Glb G H] [hp:dT H a q] (ho:f<0∨(q.fs.length:Int)≤f):SC G prog 30 [pA a.g,.int .i64 f,.string s] H (λv H'=>∃b,v=pA b∧H'=CuH b ⟨[],0,0,false⟩::H):=by
 refine sWk func30 ?_
 refine ws_ (wr_ (e_ asn (k:=on_ (qn_ (ws_ (ws_ (wr_ (e_ mv (k:=e_ ilt (k:=e_ mv (k:=dz 9 24 (k:=λh1=>eg_ mv (k:=eg_ mv (k:=eg_ nck (k:=eg_ fla (k:=eg_ fla (k:=eg_ ldv (k:=eg_ lnn (k:=eg_ ige (k:=e_ pkf (k:=on_ (edq))))))))))) (q:=on_ (qn_ (?_))))))))))))))
 refine wi_ (k:=λh2=>?_) (m:=λh2=>?_)
 ·refine ws_ (wr_ (?_))
  refine c0_ rfl (AO) (k:=?_)
  rintro _ _ ⟨bc,rfl,rfl⟩
  refine e_ asn (k:=on_ (qn_ (wt_ (qr_ (rT (k:=?_))))))
  exact⟨_,hsb,bc,rfl,rfl⟩
 exfalso;have h9:=h2;omega
theorem Ee {G:cJ}{H:cG}{a:PtA}{q:PtD}{f:Int}{s:ByteArray} [hg:Glb G H] [hp:dT H a q] (hok:iU q.fs q.ds) (hsz:s.size≤1000000000):SC G prog 30 [pA a.g,.int .i64 f,.string s] H (λv H'=>∃b,v=pA b∧H'=CuH b ⟨tQ q.fs q.ds f s,0,0,false⟩::H):=by
 by_cases ho:f<0∨(q.fs.length:Int)≤f
 ·rw[tQ,if_pos ho];exact Ed ho
 ·obtain⟨k,rfl⟩:∃k:Nat,f=(k:Int):=⟨f.toNat,a8⟩
  rw[tQ,if_neg ho,Uv];exact HY hok (a8) hsz
theorem Mu {fs:List FV}{ds:List Doc}{dl:List Int}{f:Int}{s:ByteArray}{p:Nat→Bool}(hok:iU fs ds) (hfl:fs.length≤256) (hp:∀(j:Nat) (d:Doc),ds[j]? =some d→p j= !ff dl d):(tQ fs ds f s).countP (λq=>p q.1)=dfI fs dl f s ds:=by
 by_cases ho:f<0∨(fs.length:Int)≤f
 ·rw[tQ,if_pos ho,dfI]
  have:∀d,tt fs f s d=false:=λd=>by
   have he:iO fs f d.2= []:=by
    unfold iO
    split
    ·rfl
    ·exact vh (a8) d.2
   rw[tt,he];all_goals rfl
  rw[show tt fs f s=λ_=>false from funext this]
  simp
 ·obtain⟨k,rfl⟩:∃k:Nat,f=(k:Int):=⟨f.toNat,a8⟩
  rw[tQ,if_neg ho,Uv,GF hok (a8) hfl hp,dfL,dfI,show tt fs (k:Int) s=ug fs k s from funext λd=>by rw[ug,tt,iO,if_neg (a8),Uv]]
theorem Jh {fs:List FV}{ds:List Doc}{f:Int}{s:ByteArray}(hok:iU fs ds):gJ 0 (tQ fs ds f s)∧eG (tQ fs ds f s):=by
 unfold tQ
 split
 ·exact⟨trivial,ae,ak⟩
 ·have:=lR (k:=f.toNat%256::cF s) hok.goodT
  exact⟨this.1,this.2.1⟩
theorem K1 {c:CuS}(h:c.u≤c.ps.length):(oJ c).ps=c.ps∧(oJ c).u=c.u+1:=by
 rw[oJ,if_neg (a8)];exact⟨rfl,rfl⟩
theorem Nx {G:cJ}{H:cG}{pv:SV}{fs:List FV}{dl:List Int}{zs:List PZ}{f:Int}{s:ByteArray} [hg:Glb G H] [hr:Sl H pv ePt (zs.map pzP)] (hz:∀z∈zs,PzI H fs dl z) (hp:∀z∈zs,PzF fs dl z) (hfl:fs.length≤256) (hn:zs.length≤3000000) (hsz:s.size≤1000000000):SC G prog 13 [pv.val,.int .i64 f,.string s] H (λv H'=>v=iN (dfZ fs dl f s zs)∧H'=H):=by
 have hml:(zs.map pzP).length=zs.length:=Yh ..
 refine sWk func13 ?_
 refine ws_ (wr_ (e_ asn (k:=on_ (qn_ (ws_ (wr_ (e_ asn (k:=on_ (qn_ (ws_ (ws_ (wr_ (e_ mv (k:=?_))))))))))))))
 refine e_ lnn (k:=e_ mv (k:=on_ (qn_ (wb_ (wl2_ (Nat×Nat) (λy=>y.1≤zs.length∧y.2=dfZ fs dl f s (zs.take y.1)∧y.2≤y.1*4096) (λy=>[(7,iN y.2),(14,iN y.1)]) [(1,_),(2,_),(12,_),(13,_)] (λy=>[]) _ (λy=>zs.length-y.1) ((0,0)) (h0:=?_) (k:=?_))))))
 ·try dsimp only
  exact⟨Yl _,rfl,Xj _⟩
 rintro⟨i,D⟩ ⟨hi,hD,hDb⟩
 try dsimp only[Yd,Ye]at*
 refine ws_ (wr_ (e_ ilt (k:=on_ (qn_ (ws_ (wi_ (k:=λh1=>?_) (m:=λh1=>?_)))))))
 ·obtain⟨z,hzi⟩:=gE zs i
  have hzr:(zs.map pzP)[i]? =some (z.pt.p,0):=by rw[Xd,hzi];all_goals rfl
  have hzI:=hz z (Yj hzi)
  have hzF:=hp z (Yj hzi)
  have hfew:=hzF.ok.few
  haveI hq1:dT H z.pt (pzQ fs z):=hzI.pin
  have hdfl:=GG fs dl f s z.ds
  obtain⟨ps,hps⟩:=ex (tQ fs z.ds f s)
  obtain⟨hok1,hok2⟩:=Jh (f:=f) (s:=s) hzF.ok
  rw[←hps]at hok1 hok2
  have hpl:=hok2.1
  have hcur:=Mu (f:=f) (s:=s) (dl:=dl) (p:=λj=>decide (j<z.ds.length)&&!jZ z.ws j) hzF.ok hfl (λj d hj=>by rw[hzF.dead j d hj,Ys (Yk.1 hj).1,Vt])
  rw[←hps]at hcur
  have hcle:=List.countP_le_length (p:=λq:Po=>decide (q.1<z.ds.length)&&!jZ z.ws q.1) (l:=ps)
  refine wk_ (qn_ (ws_ (wb_ (ws_ (wr_ (e_ ixa (k:=e_ (lel (hy:=hzr)) (k:=e_ asn (k:=on_ (qn_ (ws_ (wr_ (e_ mv (k:=?_))))))))))))))
  refine e_ nck (k:=e_ fla (k:=e_ ldv (k:=e_ mv (k:=e_ mv (k:=?_)))))
  refine c3_ rfl (Ee (a:=z.pt) (q:=pzQ fs z) (f:=f) (s:=s) hzF.ok hsz) (k:=?_)
  rintro _ _ ⟨b24,rfl,rfl⟩
  rw[show tQ (pzQ fs z).fs (pzQ fs z).ds f s=ps from hps.symm]
  refine e_ asn (k:=on_ (qn_ (ws_ (wr_ (e_ mv (k:=?_))))))
  refine d1_ rfl (KH) (k:=e_ asn (k:=on_ (qn_ (wb_ (wl2_ (CuS×Nat) (λy=>y.1.ps=ps∧1≤y.1.u∧y.1.u≤ps.length+1∧y.2=D+(ps.take (y.1.u-1)).countP (λq=>decide (q.1<z.ds.length)&&!jZ z.ws q.1)∧y.2≤D+y.1.u) (λy=>[(7,iN y.2),(11,.int .i64 (m5 y.1.ps y.1.u))]) [(1,_),(2,_),(9,_),(10,_),(12,_),(13,_),(14,_)] (λy=>[CuH b24 y.1]) _ (λy=>ps.length+1-y.1.u) ((oJ ⟨ps,0,0,false⟩,D)) (h0:=?_) (k:=?_))))))
  ·try dsimp only
   obtain⟨n1,n2⟩:=K1 (c:=⟨ps,0,0,false⟩) (Yl _)
   refine⟨n1,by rw[n2];exact Xj _,by rw[n2];simp,by rw[n2];all_goals rfl,a8⟩
  rintro⟨c,E⟩ ⟨hcp,hu1,hu2,hE,hEb⟩
  try dsimp only[Yd,Ye]at*
  refine ws_ (ws_ (wr_ (e_ mv (k:=e_ ilt (k:=on_ (qn_ (wi_ (k:=λh2=>?_) (m:=λh2=>?_))))))))
  ·have hul:c.u≤ps.length:=by
    rcases Uq hu2 with h8|h8
    ·omega
    ·have h9:=h2;rw[hcp,h8,yE]at h9;omega
   obtain⟨p,hpu⟩:=gE ps (c.u-1)
   have hdoc:m5 c.ps c.u=((p.1:Nat):Int):=by
    rw[hcp,show c.u=(c.u-1)+1 from a8];exact wK hpu
   obtain⟨n1,n2⟩:=K1 (c:=c) (by rw[hcp];exact hul)
   have hct:=vy (p:=λq:Po=>decide (q.1<z.ds.length)&&!jZ z.ws q.1) hpu
   rw[show c.u-1+1=(oJ c).u-1 from a8]at hct
   rw[hdoc]
   refine wk_ (qn_ (ws_ (wb_ (ws_ (wr_ (e_ mv (k:=e_ mv (k:=?_))))))))
   refine d2_ rfl (Lg (a:=z.pt) (q:=pzQ fs z) (d:=((p.1:Nat):Int)) hzF.pt) (k:=on_ (qn_ (wi_ (k:=λh3=>?_) (m:=λh3=>?_))))
   ·have hyes:(decide (p.1<z.ds.length)&&!jZ z.ws p.1)=true:=by
     have h9:=h3
     rcases U9 p.1 z.ds.length with h8|h8
     ·rw[Ys h8,Vt];simpa [pzQ,h8] using h9
     ·exfalso;simp[pzQ]at h9;omega
    rw[if_pos hyes]at hct
    refine wr_ (e_ mv (k:=e_ iad (k:=e_ asn (k:=on_ (bn_ (qn_ (wr_ (e_ mv (k:=?_)))))))))
    refine d1_ rfl (KH (c:=c)) (k:=e_ asn (k:=on_ (?_)))
    refine ln_ ((oJ c,E+1)) (k:=?_)
    try dsimp only
    exact⟨by rw[n1];exact hcp,a8,a8,a8,a8⟩
   have hno:¬(decide (p.1<z.ds.length)&&!jZ z.ws p.1)=true:=by
    have h9:=h3
    intro h7
    simp only[Xu,Xs,Vq]at h7
    simp only[pzQ,Uv]at h9
    rcases h9 with(h9|h9)|h9
    ·omega
    ·omega
    ·rw[h7.2]at h9;cases h9
   rw[if_neg hno]at hct
   refine wk_ (bn_ (qn_ (wr_ (e_ mv (k:=?_)))))
   refine d1_ rfl (KH (c:=c)) (k:=e_ asn (k:=on_ (?_)))
   refine ln_ ((oJ c,E)) (k:=?_)
   try dsimp only
   exact⟨by rw[n1];exact hcp,a8,a8,a8,a8⟩
  have hul:c.u=ps.length+1:=by
   rcases Uq hu2 with h8|h8
   ·exfalso
    obtain⟨p,hpu⟩:=gE ps (c.u-1)
    have hdoc:m5 c.ps c.u=((p.1:Nat):Int):=by
     rw[hcp,show c.u=(c.u-1)+1 from a8];exact wK hpu
    have:=(hok2.2 p (Yj hpu)).1
    have h9:=h2
    rw[hdoc]at h9
    omega
   ·exact h8
  rw[hul,Uj,Xk]at hE
  refine we_ (qe_ (le_ (bh_ (bn_ (qn_ (wr_ (e_ iad (k:=e_ mv (k:=on_ (?_))))))))))
  refine ln_ ((i+1,E)) (k:=?_)
  try dsimp only
  exact⟨a8,by rw[BD hzi,hE,hD,hcur],by rw[hE,hcur,Vg];omega⟩
 obtain rfl:i=zs.length:=a8
 rw[Xk]at hD
 refine we_ (qe_ (le_ (bh_ (qn_ (ws_ (wr_ (e_ mv (k:=e_ asn (k:=on_ (qn_ (wt_ (rT (k:=?_)))))))))))))
 exact⟨_,hsb,by rw[←hD];all_goals rfl,rfl⟩
theorem zl {G:cJ}{H:cG}{s s2:SV}{xs ys:List Int} [Sl H s eI xs] [Sl H s2 eI ys] (hn:xs.length≤1000000000000):SC G prog 9 [s.val,s2.val] H (λv H'=>v=.bool (decide (xs=ys))∧H'=H):=by
 refine sWk func9 ?_
 refine ws_ (wr_ (e_ asn (k:=on_ (qn_ (ws_ (ws_ (wr_ (e_ mv (k:=e_ lnn (k:=e_ mv (k:=e_ lnn (k:=e_ ine (k:=on_ (?_))))))))))))))
 refine qn_ (wi_ (k:=λh1=>?_) (m:=λh1=>?_))
 ·have hne:¬xs=ys:=by rintro rfl;have h9:=h1;omega
  refine ws_ (wr_ (e_ asn (k:=on_ (qn_ (wt_ (qr_ (rT (k:=?_))))))))
  exact⟨_,hsb,by rw[Yr hne];all_goals rfl,rfl⟩
 have hl:xs.length=ys.length:=az
 refine wk_ (qn_ (ws_ (ws_ (wr_ (e_ mv (k:=e_ lnn (k:=e_ mv (k:=on_ (qn_ (wb_ (wl2_ (Nat) (λy=>y≤xs.length∧∀j,j<y→xs[j]? =ys[j]?) (λy=>[(13,iN y)]) [(0,_),(1,_),(12,_)] (λy=>[]) _ (λy=>xs.length-y) (0) (h0:=?_) (k:=?_))))))))))))
 ·try dsimp only
  exact⟨Yl _,λj h=>absurd h (Up _)⟩
 rintro i ⟨hi,hall⟩
 try dsimp only[Yd,Ye]at*
 refine ws_ (wr_ (e_ ilt (k:=on_ (qn_ (ws_ (wi_ (k:=λh2=>?_) (m:=λh2=>?_)))))))
 ·obtain⟨x,hx⟩:=gE xs i
  obtain⟨y9,hy⟩:=gE ys i
  refine wk_ (qn_ (ws_ (wb_ (ws_ (wr_ (e_ mv (k:=e_ asn (k:=on_ (qn_ (ws_ (?_)))))))))))
  refine cZ cN (as_ 0 (q:=mv) (k:=as_ 1 (q:=mv) (k:=as_ 2 (q:=ixa) (k:=as_ 3 (q:=lel (hy:=hx)) (k:=as_ 4 (q:=mv) (k:=as_ 5 (q:=mv) (k:=as_ 6 (q:=ixa) (k:=as_ 7 (q:=lel (hy:=hy)) (k:=as_ 8 (q:=ine) (k:=az_ (k:=qn_ (wi_ (k:=λh3=>?_) (m:=λh3=>?_)))))))))))))
  ·have hne:¬xs=ys:=by rintro rfl;rw[hx]at hy;cases hy;have h9:=h3;simp at h9
   refine ws_ (wr_ (e_ asn (k:=on_ (qn_ (wt_ (br_ (qr_ (lr_ (br_ (qr_ (rT (k:=?_))))))))))))
   exact⟨_,hsb,by rw[Yr hne];all_goals rfl,rfl⟩
  have heq:x=y9:=by have h9:=h3;omega
  refine wk_ (bn_ (qn_ (wr_ (e_ iad (k:=e_ mv (k:=on_ (?_)))))))
  refine ln_ (i+1) (k:=?_)
  try dsimp only
  refine⟨a8,λj hj=>?_⟩
  rcases Uq (X9 hj)with h|rfl
  ·exact hall j h
  ·rw[hx,hy,heq]
 obtain rfl:i=xs.length:=a8
 have heq:xs=ys:=Vu λj=>by
  by_cases hj:j<xs.length
  ·exact hall j hj
  ·rw[Ve (a8),Ve (a8)]
 refine we_ (qe_ (le_ (bh_ (qn_ (ws_ (wr_ (e_ asn (k:=on_ (qn_ (wt_ (rT (k:=?_))))))))))))
 exact⟨_,hsb,by rw[Ys heq];all_goals rfl,rfl⟩
theorem HP {G:cJ}{H:cG}{a:CaA}{fs:List FV}{svs:List SV}{vss:List (List Val)} [hf:Sl H a.fv eF fs] [hd:Sl H a.dv eSV svs] (hdi:uk H svs vss) (hfl:fs.length≤1000000) (hfn:∀f∈fs,f.name.size≤1000000000) (hvn:∀vs∈vss,vs.length≤1000000000) (hq:∀vs∈vss,∀v∈vs,v.2.size≤1000000000):SC G prog 5 [.agg (caV a).toArray] H (λv H'=>((v=.bool false)∨(v=.bool true∧fW fs=true∧vss.length≤4096∧∀vs∈vss,gl fs vs=0))∧H'=H):=by
 have hll:=hdi.1
 refine sWk func5 ?_
 refine ws_ (wr_ (bxx (k:=λb1=>?_)))
 refine e_ asn (k:=on_ (qn_ (ws_ (ws_ (wr_ (e_ fla (k:=e_ lds (k:=?_))))))))
 refine c1_ rfl (uF (a8) (λf hf=>by have:=hfn f hf;omega)) (k:=?_)
 rintro _ _ ⟨c,rfl,hc,rfl⟩
 refine e_ ine (k:=e_ mv (k:=dz 5 14 (k:=λh1=>eg_ fla (k:=eg_ ldv (k:=eg_ lnn (k:=eg_ igt (k:=e_ pkf (k:=on_ (edq))))))) (q:=on_ (qn_ (wi_ (k:=λh2=>?_) (m:=λh2=>?_))))))
 ·refine ws_ (wr_ (e_ asn (k:=on_ (qn_ (wt_ (qr_ (rT (k:=?_))))))))
  exact⟨_,hsb,.inl rfl,rfl⟩
 have hcs:fW fs=true:=by
  rcases hc with⟨_,h8⟩|⟨h8,_⟩
  ·have h9:=h2;omega
  ·exact h8
 have hsn:svs.length≤4096:=aL
 refine wk_ (qn_ (ws_ (ws_ (wr_ (e_ fla (k:=e_ ldv (k:=e_ lnn (k:=e_ mv (k:=on_ (qn_ (wb_ (wl2_ (Nat) (λy=>y≤svs.length∧∀vs∈vss.take y,gl fs vs=0) (λy=>[(18,iN y)]) [(1,_),(16,_),(17,_)] (λy=>[]) _ (λy=>svs.length-y) (0) (h0:=?_) (k:=?_)))))))))))))
 ·try dsimp only
  exact⟨Yl _,ak⟩
 rintro i ⟨hi,hgd⟩
 try dsimp only[Yd,Ye]at*
 refine ws_ (wr_ (e_ ilt (k:=on_ (qn_ (ws_ (wi_ (k:=λh3=>?_) (m:=λh3=>?_)))))))
 ·obtain⟨s,hs⟩:=gE svs i
  obtain⟨vs,hvs⟩:=gE vss i
  haveI hsl:Sl H s eVl vs:=hdi.2 i s vs hs hvs
  have hvm:=Yj hvs
  have hvl:=hvn vs hvm
  have htk:=cL hvs
  refine wk_ (qn_ (ws_ (wb_ (ws_ (wr_ (e_ ixa (k:=e_ (lel (hy:=hs)) (k:=e_ asn (k:=on_ (qn_ (ws_ (wr_ (e_ fla (k:=?_))))))))))))))
  refine e_ lds (k:=e_ mv (k:=?_))
  refine d2_ rfl (NV (fs:=fs) (vs:=vs) hfl hfn hvl (hq vs hvm)) (k:=e_ ine (k:=on_ (qn_ (wi_ (k:=λh4=>?_) (m:=λh4=>?_)))))
  ·refine ws_ (wr_ (e_ asn (k:=on_ (qn_ (wt_ (br_ (qr_ (lr_ (br_ (qr_ (rT (k:=?_))))))))))))
   exact⟨_,hsb,.inl rfl,rfl⟩
  have hg0:gl fs vs=0:=by have h9:=h4;omega
  refine wk_ (bn_ (qn_ (wr_ (e_ iad (k:=e_ mv (k:=on_ (?_)))))))
  refine ln_ (i+1) (k:=?_)
  try dsimp only
  exact⟨a8,λv hv=>by
   rw[htk]at hv
   rcases Xl.1 hv with hv|hv
   ·exact hgd v hv
   ·rw[Ui]at hv;subst hv;exact hg0⟩
 obtain rfl:i=svs.length:=a8
 rw[Xq (a8)]at hgd
 refine we_ (qe_ (le_ (bh_ (qn_ (ws_ (wr_ (e_ asn (k:=on_ (qn_ (wt_ (rT (k:=?_))))))))))))
 exact⟨_,hsb,.inr ⟨rfl,hcs,a8,hgd⟩,rfl⟩
theorem y8 {α:Type}:∀(l:List α) (k n:Nat),(idL k l).take n=idL k (l.take n)
 | [],k,n=>by rw[idL,List.take_nil,List.take_nil,idL]
 |x::l,k,0=>rfl
 |x::l,k,n+1=>by rw[idL,Vj,Vj,idL,y8 l (k+1) n]
theorem yb {α:Type}:∀(l:List α) (k n:Nat),(idL k l).drop n=idL (k+n) (l.drop n)
 | [],k,n=>by rw[idL,List.drop_nil,List.drop_nil,idL]
 |x::l,k,0=>rfl
 |x::l,k,n+1=>by rw[idL,V7,V7,yb l (k+1) n,show k+1+n=k+(n+1)from a8]
theorem Bm {fs:List FV}:∀(vss:List (List Val)) (k:Nat) (la:Int),la<((3*k:Nat):Int)→3*(k+vss.length)<1099511627776→(∀vs∈vss,gl fs vs=0)→ow fs la (idL k vss)=0
 | [],_,_,_,_,_=>rfl
 |vs::vss,k,la,h1,h2,h3=>by
  rw[Yb]at h2
  rw[idL,ow]
  simp only
  rw[if_neg (a8),if_neg (a8),if_pos (h3 vs Yz)]
  exact Bm vss (k+1) _ (a8) (a8) λv hv=>h3 v (Xa _ hv)
structure Ju (fs:List FV) (vss:List (List Val)) (dl cs:List Int):Prop where
 fl:fs.length≤1000000
 fn:∀f∈fs,f.name.size≤1000000000
 vn:∀vs∈vss,vs.length≤1000000000
 q:∀vs∈vss,∀v∈vs,v.2.size≤1000000000
 cl:cs.length≤2000000
 xl:dl.length≤1000000000
 z:∀lo hi:Nat,dsz (idL lo ((vss.take hi).drop lo))≤30000000
 t:fW fs=true→∀lo hi:Nat,(eQ fs (idL lo ((vss.take hi).drop lo))).length≤2000000
theorem Ju.ds {fs:List FV}{vss:List (List Val)}{dl cs:List Int}(h:Ju fs vss dl cs) (h1:fW fs=true) (h2:vss.length≤4096) (h3:∀vs∈vss,gl fs vs=0) (lo hi:Nat):OL fs (((idL 0 vss).take hi).drop lo):=by
 rw[y8,yb,Vf]
 have hl:((vss.take hi).drop lo).length≤4096:=aR
 refine⟨?_,h.z lo hi,h.t h1 lo hi⟩
 rw[qP,if_neg (by rw[h1];decide),if_neg (by rw[mJ];omega)]
 by_cases hlo:lo≤4096
 ·exact Bm _ _ _ (a8) (a8) λvs hv=>h3 vs (Yq (Yp hv))
 ·rw[Uu (ar)];all_goals rfl
theorem BE {fs:List FV}{dl:List Int}:∀{zs:List PZ},(∀z∈zs,PzF fs dl z)→ry dl zs≤zs.length*4096
 | [],_=>Yl _
 |z::zs,h=>by
  have h1:=BE (zs:=zs) λy hy=>h y (Xa _ hy)
  have h2:=nx dl z.ds
  have h3:=(h z Yz).ok.few
  have e:ry dl (z::zs)=(e8 dl z.ds).length+ry dl zs:=by simp[ry]
  rw[e,Yb,Vg];omega
theorem AS {fs:List FV}{dl:List Int}:∀{zs:List PZ}{S:List Nat}{M:Nat},(∀z∈zs,PzF fs dl z)→kI S M→kI (mi fs dl S zs) (M+zs.length*30000000)
 | [],S,M,_,h=>λs hs=>by have:=h s hs;rw[Yc,Nat.zero_mul];omega
 |z::zs,S,M,hp,h=>by
  have h1:=pT dl z.ds
  have h2:=(hp z Yz).ok.size
  have h3:kI (oh fs S (e8 dl z.ds)) (M+30000000):=λs hs=>by
   have:=BP (fs:=fs) (ds:=e8 dl z.ds) h s hs
   omega
  have h4:=AS (zs:=zs) (λy hy=>hp y (Xa _ hy)) h3
  intro s hs
  have:=h4 s hs
  rw[Yb,Vg];omega
theorem FE {G:cJ}{H:cG}{a:CaA}{fs:List FV}{svs:List SV}{vss:List (List Val)}{dl cs:List Int} [hg:Glb G H] [He G] [hb:qi H] [Tab H 43 md] [Tab H 33 l7] [hf:Sl H a.fv eF fs] [hd:Sl H a.dv eSV svs] [hx:Sl H a.xv eI dl] [hc:Sl H a.cv eI cs] [Spc H] (hT:jt G) (hS:nJ) (hdi:uk H svs vss) (hk:Ju fs vss dl cs) (hsz:a.s.size≤1000000000):
 SC G prog 3 [.agg (caV a).toArray] H (λv H'=>v=.bool true∧H'=H):=by
 refine sWk func3 ?_
 refine ws_ (wr_ (bxx (k:=λb1=>?_)))
 refine e_ asn (k:=on_ (qn_ (ws_ (ws_ (wr_ (?_))))))
 refine d0_ rfl (HQ) (k:=e_ jq (k:=on_ (qn_ (wi_ (k:=λh1=>?_) (m:=λh1=>?_)))))
 ·cases h1
 refine wk_ (qn_ (ws_ (ws_ (wr_ (e_ lds (k:=?_))))))
 refine c1_ rfl (HP (hdi.less (hsb)) hk.fl hk.fn hk.vn hk.q) (k:=?_)
 rintro _ _ ⟨(rfl|⟨rfl,hcs,hvl,hgd⟩),rfl⟩
 ·refine e_ jq (k:=on_ (qn_ (wi_ (k:=λh2=>?_) (m:=λh2=>?_))))
  ·refine ws_ (wr_ (e_ asn (k:=on_ (qn_ (wt_ (qr_ (rT (k:=?_))))))))
   exact⟨_,hsb,rfl,rfl⟩
  exact absurd h2 (ak)
 have hds:=hk.ds hcs hvl hgd
 have hsl:svs.length≤4096:=by rw[hdi.1];exact hvl
 have hf16:fs.length≤16:=(gq hcs).1.2
 have hcl:=hk.cl
 refine e_ jq (k:=on_ (qn_ (wi_ (k:=λh3=>?_) (m:=λh3=>?_))))
 ·exact absurd h3 (ak)
 refine wk_ (qn_ (ws_ (wr_ (e_ lds (k:=e_ fla (k:=e_ ldv (k:=?_)))))))
 refine c2_ rfl (KB (cs:=cs) (fs:=fs) (dl:=dl) hT hS (hdi.less (hsb)) hsl hk.cl hk.xl hds) (k:=?_)
 rintro _ _ ⟨ud,u,w,zs,hz,hzl,rfl,rfl⟩
 have hp:∀z∈zs,PzF fs dl z:=λz hm=>(hz z hm).1
 have hI0:∀z∈zs,PzI (Cl (pqH dl) zs::Row ud eD (idL 0 svs)::Vr b1 (caV a)::H) fs dl z:=O2 inferInstance cH.refl hz
 have hcz:=BE hp
 obtain⟨S,hS9⟩:=ex (mi fs dl (List.replicate fs.length 0) zs)
 obtain⟨D,hD9⟩:=ex (ry dl zs)
 obtain⟨N,hN9⟩:=ex (dfZ fs dl a.f a.s zs)
 have hSl:S.length=fs.length:=by rw[hS9,pe,Xe]
 have hil:(cP S).length=fs.length:=by rw[dJ,hSl]
 rw[←hD9]at hcz
 have hSB:kI S 1000000000000000000:=λs hs=>by
  rw[hS9]at hs
  have h1:=AS hp (S:=List.replicate fs.length 0) (M:=0) (λs hs=>by rw[List.eq_of_mem_replicate hs];exact Xj _) s hs
  have h2:zs.length*30000000≤3000000*30000000:=Vc _ (a8)
  omega
 refine e_ mv (k:=e_ exr (k:=e_ exr (k:=e_ exr (k:=e_ asn (k:=e_ asn (k:=e_ asn (k:=on_ (qn_ (ws_ (ws_ (wr_ (e_ mv (k:=e_ jq (k:=?_))))))))))))))
 refine on_ (qn_ (iff_ (k:=wk_ (qn_ (ws_ (wr_ (e_ fla (k:=e_ lds (k:=e_ mv (k:=?_))))))))))
 refine c2_ rfl (Cu (fv:=a.fv) (rv:=w) (zs:=zs) (fs:=fs) (dl:=dl) (λz hm=>(hI0 z hm).less (hsb)) hp (a8) (a8)) (k:=?_)
 rintro _ _ ⟨sw,rfl,rfl⟩
 rw[←hS9,←hD9]
 refine alc (k:=λb6=>?_)
 refine sto (k:=on_ (qn_ (l4 (SV×SV×Nat×Nat) (λy=>True) (λy=>[(7,pA y.2.2.1),(8,pA y.2.2.2)]) [7,8,31,32,33,34,35,36,37,38] (λy=>[Vr y.2.2.1 [iN D,y.1.val],Row y.1 eI (cP S),Vr y.2.2.2 [iN D,y.2.1.val],Row y.2.1 eI (cP S)]) (Vr b6 [iN D,sw.val]::Row sw eI (cP S)::Row u ePt (zs.map pzP)::Row w eRp (zs.map (pzR a.fv))::Cl (pqH dl) zs::Row ud eD (idL 0 svs)::Vr b1 (caV a)::H) ?_ ?_)))
 ·refine wD [3,7,8,9,10,11] (λk H=>(k=1→cY H b1 (caV a))∧(k=5→cY H b1 (caV a))) (aF 0 (k:=?_))
  refine aN 1 rfl (λH hH=>aW) (?_)
  refine aF 2 (k:=aF 4 (k:=?_))
  refine aN 5 rfl (λH hH=>by have hN:=hH.2 rfl;exact lds) (?_)
  refine aF 6 (k:=?_)
  refine yV 3 8 9 rfl rfl rfl (aa) rfl rfl rfl (λk hk=>⟨λhi=>ay,λhi=>ay⟩) (dy (vs:= [_,_]) rfl (fu (fv:=a.fv) (pv:=u) (zs:=zs) (fs:=fs) (dl:=dl) (λz hm=>(hI0 z hm).less (hsb)) hp (a8) (a8))) (ef) (ef) ?_ ?_ ?_
  ·rintro _ _ ⟨s34,rfl,rfl⟩
   rw[←hS9,←hD9]
   refine yV 7 8 9 rfl rfl rfl (aa) rfl rfl rfl (λk hk=>⟨λhi=>absurd hk (aB),λhi=>ay⟩) (dy (vs:= [_,_]) rfl (fu (fv:=a.fv) (pv:=u) (zs:=zs) (fs:=fs) (dl:=dl) (λz hm=>(hI0 z hm).less (hsb)) hp (a8) (a8))) (ef) (ef) ?_ ?_ ?_
   ·rintro _ _ ⟨s38,rfl,rfl⟩
    rw[←hS9,←hD9]
    refine jL 8 9 rfl rfl (aa) rfl rfl (λk hk=>⟨λhi=>absurd hk (aB),λhi=>absurd hk (aB)⟩) (ef) (ef) ?_ ?_
    ·rintro _ _ ⟨b7,rfl,rfl⟩
     refine aS 9 rfl (ef) ?_
     rintro _ _ ⟨b8,rfl,rfl⟩
     refine aS 10 rfl (db rfl rfl rfl) ?_
     rintro _ _ ⟨rfl,rfl⟩
     refine aS 11 rfl (db rfl rfl rfl) ?_
     rintro _ _ ⟨rfl,rfl⟩
     refine aZ (jnE (s34,s38,b7,b8) (q:=?_))
     trivial
    rintro _ _ ⟨b8,rfl,rfl⟩
    refine aS 8 rfl (ef) ?_
    rintro _ _ ⟨b7,rfl,rfl⟩
    refine aS 10 rfl (db rfl rfl rfl) ?_
    rintro _ _ ⟨rfl,rfl⟩
    refine aS 11 rfl (db rfl rfl rfl) ?_
    rintro _ _ ⟨rfl,rfl⟩
    refine aZ (jnE (s34,s38,b7,b8) (q:=?_))
    trivial
   ·rintro _ _ ⟨b7,rfl,rfl⟩
    refine jL 7 9 rfl rfl (aa) rfl rfl (λk hk=>⟨λhi=>absurd hk (aB),λhi=>ay⟩) (dy (vs:= [_,_]) rfl (fu (fv:=a.fv) (pv:=u) (zs:=zs) (fs:=fs) (dl:=dl) (λz hm=>(hI0 z hm).less (hsb)) hp (a8) (a8))) (ef) ?_ ?_
    ·rintro _ _ ⟨s38,rfl,rfl⟩
     rw[←hS9,←hD9]
     refine aS 9 rfl (ef) ?_
     rintro _ _ ⟨b8,rfl,rfl⟩
     refine aS 10 rfl (db rfl rfl rfl) ?_
     rintro _ _ ⟨rfl,rfl⟩
     refine aS 11 rfl (db rfl rfl rfl) ?_
     rintro _ _ ⟨rfl,rfl⟩
     refine aZ (jnE (s34,s38,b7,b8) (q:=?_))
     trivial
    rintro _ _ ⟨b8,rfl,rfl⟩
    refine aS 7 rfl (dy (vs:= [_,_]) rfl (fu (fv:=a.fv) (pv:=u) (zs:=zs) (fs:=fs) (dl:=dl) (λz hm=>(hI0 z hm).less (hsb)) hp (a8) (a8))) ?_
    rintro _ _ ⟨s38,rfl,rfl⟩
    rw[←hS9,←hD9]
    refine aS 10 rfl (db rfl rfl rfl) ?_
    rintro _ _ ⟨rfl,rfl⟩
    refine aS 11 rfl (db rfl rfl rfl) ?_
    rintro _ _ ⟨rfl,rfl⟩
    refine aZ (jnE (s34,s38,b7,b8) (q:=?_))
    trivial
   rintro _ _ ⟨b8,rfl,rfl⟩
   refine jL 7 8 rfl rfl (aa) rfl rfl (λk hk=>⟨λhi=>absurd hk (aB),λhi=>ay⟩) (dy (vs:= [_,_]) rfl (fu (fv:=a.fv) (pv:=u) (zs:=zs) (fs:=fs) (dl:=dl) (λz hm=>(hI0 z hm).less (hsb)) hp (a8) (a8))) (ef) ?_ ?_
   ·rintro _ _ ⟨s38,rfl,rfl⟩
    rw[←hS9,←hD9]
    refine aS 8 rfl (ef) ?_
    rintro _ _ ⟨b7,rfl,rfl⟩
    refine aS 10 rfl (db rfl rfl rfl) ?_
    rintro _ _ ⟨rfl,rfl⟩
    refine aS 11 rfl (db rfl rfl rfl) ?_
    rintro _ _ ⟨rfl,rfl⟩
    refine aZ (jnE (s34,s38,b7,b8) (q:=?_))
    trivial
   rintro _ _ ⟨b7,rfl,rfl⟩
   refine aS 7 rfl (dy (vs:= [_,_]) rfl (fu (fv:=a.fv) (pv:=u) (zs:=zs) (fs:=fs) (dl:=dl) (λz hm=>(hI0 z hm).less (hsb)) hp (a8) (a8))) ?_
   rintro _ _ ⟨s38,rfl,rfl⟩
   rw[←hS9,←hD9]
   refine aS 10 rfl (db rfl rfl rfl) ?_
   rintro _ _ ⟨rfl,rfl⟩
   refine aS 11 rfl (db rfl rfl rfl) ?_
   rintro _ _ ⟨rfl,rfl⟩
   refine aZ (jnE (s34,s38,b7,b8) (q:=?_))
   trivial
  ·rintro _ _ ⟨b7,rfl,rfl⟩
   refine jL 3 9 rfl rfl (aa) rfl rfl (λk hk=>⟨λhi=>ay,λhi=>ay⟩) (dy (vs:= [_,_]) rfl (fu (fv:=a.fv) (pv:=u) (zs:=zs) (fs:=fs) (dl:=dl) (λz hm=>(hI0 z hm).less (hsb)) hp (a8) (a8))) (ef) ?_ ?_
   ·rintro _ _ ⟨s34,rfl,rfl⟩
    rw[←hS9,←hD9]
    refine jL 7 9 rfl rfl (aa) rfl rfl (λk hk=>⟨λhi=>absurd hk (aB),λhi=>ay⟩) (dy (vs:= [_,_]) rfl (fu (fv:=a.fv) (pv:=u) (zs:=zs) (fs:=fs) (dl:=dl) (λz hm=>(hI0 z hm).less (hsb)) hp (a8) (a8))) (ef) ?_ ?_
    ·rintro _ _ ⟨s38,rfl,rfl⟩
     rw[←hS9,←hD9]
     refine aS 9 rfl (ef) ?_
     rintro _ _ ⟨b8,rfl,rfl⟩
     refine aS 10 rfl (db rfl rfl rfl) ?_
     rintro _ _ ⟨rfl,rfl⟩
     refine aS 11 rfl (db rfl rfl rfl) ?_
     rintro _ _ ⟨rfl,rfl⟩
     refine aZ (jnE (s34,s38,b7,b8) (q:=?_))
     trivial
    rintro _ _ ⟨b8,rfl,rfl⟩
    refine aS 7 rfl (dy (vs:= [_,_]) rfl (fu (fv:=a.fv) (pv:=u) (zs:=zs) (fs:=fs) (dl:=dl) (λz hm=>(hI0 z hm).less (hsb)) hp (a8) (a8))) ?_
    rintro _ _ ⟨s38,rfl,rfl⟩
    rw[←hS9,←hD9]
    refine aS 10 rfl (db rfl rfl rfl) ?_
    rintro _ _ ⟨rfl,rfl⟩
    refine aS 11 rfl (db rfl rfl rfl) ?_
    rintro _ _ ⟨rfl,rfl⟩
    refine aZ (jnE (s34,s38,b7,b8) (q:=?_))
    trivial
   rintro _ _ ⟨b8,rfl,rfl⟩
   refine aS 3 rfl (dy (vs:= [_,_]) rfl (fu (fv:=a.fv) (pv:=u) (zs:=zs) (fs:=fs) (dl:=dl) (λz hm=>(hI0 z hm).less (hsb)) hp (a8) (a8))) ?_
   rintro _ _ ⟨s34,rfl,rfl⟩
   rw[←hS9,←hD9]
   refine aS 7 rfl (dy (vs:= [_,_]) rfl (fu (fv:=a.fv) (pv:=u) (zs:=zs) (fs:=fs) (dl:=dl) (λz hm=>(hI0 z hm).less (hsb)) hp (a8) (a8))) ?_
   rintro _ _ ⟨s38,rfl,rfl⟩
   rw[←hS9,←hD9]
   refine aS 10 rfl (db rfl rfl rfl) ?_
   rintro _ _ ⟨rfl,rfl⟩
   refine aS 11 rfl (db rfl rfl rfl) ?_
   rintro _ _ ⟨rfl,rfl⟩
   refine aZ (jnE (s34,s38,b7,b8) (q:=?_))
   trivial
  rintro _ _ ⟨b8,rfl,rfl⟩
  refine jL 3 8 rfl rfl (aa) rfl rfl (λk hk=>⟨λhi=>ay,λhi=>ay⟩) (dy (vs:= [_,_]) rfl (fu (fv:=a.fv) (pv:=u) (zs:=zs) (fs:=fs) (dl:=dl) (λz hm=>(hI0 z hm).less (hsb)) hp (a8) (a8))) (ef) ?_ ?_
  ·rintro _ _ ⟨s34,rfl,rfl⟩
   rw[←hS9,←hD9]
   refine jL 7 8 rfl rfl (aa) rfl rfl (λk hk=>⟨λhi=>absurd hk (aB),λhi=>ay⟩) (dy (vs:= [_,_]) rfl (fu (fv:=a.fv) (pv:=u) (zs:=zs) (fs:=fs) (dl:=dl) (λz hm=>(hI0 z hm).less (hsb)) hp (a8) (a8))) (ef) ?_ ?_
   ·rintro _ _ ⟨s38,rfl,rfl⟩
    rw[←hS9,←hD9]
    refine aS 8 rfl (ef) ?_
    rintro _ _ ⟨b7,rfl,rfl⟩
    refine aS 10 rfl (db rfl rfl rfl) ?_
    rintro _ _ ⟨rfl,rfl⟩
    refine aS 11 rfl (db rfl rfl rfl) ?_
    rintro _ _ ⟨rfl,rfl⟩
    refine aZ (jnE (s34,s38,b7,b8) (q:=?_))
    trivial
   rintro _ _ ⟨b7,rfl,rfl⟩
   refine aS 7 rfl (dy (vs:= [_,_]) rfl (fu (fv:=a.fv) (pv:=u) (zs:=zs) (fs:=fs) (dl:=dl) (λz hm=>(hI0 z hm).less (hsb)) hp (a8) (a8))) ?_
   rintro _ _ ⟨s38,rfl,rfl⟩
   rw[←hS9,←hD9]
   refine aS 10 rfl (db rfl rfl rfl) ?_
   rintro _ _ ⟨rfl,rfl⟩
   refine aS 11 rfl (db rfl rfl rfl) ?_
   rintro _ _ ⟨rfl,rfl⟩
   refine aZ (jnE (s34,s38,b7,b8) (q:=?_))
   trivial
  rintro _ _ ⟨b7,rfl,rfl⟩
  refine aS 3 rfl (dy (vs:= [_,_]) rfl (fu (fv:=a.fv) (pv:=u) (zs:=zs) (fs:=fs) (dl:=dl) (λz hm=>(hI0 z hm).less (hsb)) hp (a8) (a8))) ?_
  rintro _ _ ⟨s34,rfl,rfl⟩
  rw[←hS9,←hD9]
  refine aS 7 rfl (dy (vs:= [_,_]) rfl (fu (fv:=a.fv) (pv:=u) (zs:=zs) (fs:=fs) (dl:=dl) (λz hm=>(hI0 z hm).less (hsb)) hp (a8) (a8))) ?_
  rintro _ _ ⟨s38,rfl,rfl⟩
  rw[←hS9,←hD9]
  refine aS 10 rfl (db rfl rfl rfl) ?_
  rintro _ _ ⟨rfl,rfl⟩
  refine aS 11 rfl (db rfl rfl rfl) ?_
  rintro _ _ ⟨rfl,rfl⟩
  refine aZ (jnE (s34,s38,b7,b8) (q:=?_))
  trivial
 rintro⟨sa,sb,b7,b8⟩ _
 try dsimp only at*
 dsimp only[Yd,Ye]
 refine ws_ (ws_ (wr_ (e_ fla (k:=e_ ldv (k:=e_ fla (k:=e_ ldv (k:=e_ ine (k:=e_ mv (k:=dz 6 50 (k:=λh4=>eg_ fla (k:=eg_ ldv (k:=eg_ fla (k:=eg_ ldv (k:=eg_ ine (k:=e_ pkf (k:=on_ (edq)))))))) (q:=e_ mv (k:=dz 7 58 (k:=λh5=>eg_ fla (k:=eg_ ldv (k:=eg_ fla (k:=eg_ ldv (k:=gA (vs:=[_,_]) (hc:=(zl (xs:=cP S) (ys:=cP S) (a8))) (k:=eg_ jq (k:=e_ pkf (k:=on_ (edq))))))))) (q:=e_ mv (k:=dz 7 66 (k:=λh6=>eg_ fla (k:=eg_ ldv (k:=eg_ fla (k:=eg_ ldv (k:=gA (vs:=[_,_]) (hc:=(zl (xs:=cP S) (ys:=cP S) (a8))) (k:=eg_ jq (k:=e_ pkf (k:=on_ (edq))))))))) (q:=?_))))))))))))))
 refine on_ (qn_ (wi_ (k:=λh7=>?_) (m:=λh7=>?_)))
 ·exfalso;have h9:=h7;simp at h9
 refine wk_ (qn_ (ws_ (ws_ (wr_ (?_)))))
 refine e_ (asv (v:=.int .i64 (((0:Nat):Int)-1)) rfl rfl) (k:=?_)
 refine on_ (qn_ (wb_ (wl2_ (Nat) (λy=>y≤fs.length+2) (λy=>[(9,.int .i64 (((y:Nat):Int)-1))]) [(1,_),(3,_),(4,_),(6,_),(7,_),(8,_)] (λy=>[]) _ (λy=>fs.length+2-y) (0) (h0:=?_) (k:=?_))))
 ·try dsimp only
  exact Yl _
 rintro j hj
 try dsimp only[Yd,Ye]at*
 refine ws_ (ws_ (wr_ (e_ mv (k:=e_ fla (k:=e_ fla (k:=e_ ldv (k:=e_ lnn (k:=e_ ile (k:=on_ (qn_ (wi_ (k:=λh8=>?_) (m:=λh8=>?_))))))))))))
 ·have hjl:j≤fs.length+1:=by have h9:=h8;omega
  refine wk_ (qn_ (ws_ (wb_ (ws_ (?_)))))
  refine cZ cN (as_ 0 (q:=lds) (k:=as_ 1 (q:=mv) (k:=?_)))
  refine cO 2 rfl rfl (aa) rfl (gi (vs:= [_,_]) rfl (PD (D:=D) (S:=S) hSB)) (?_)
  refine as_ 3 (q:=lds) (k:=as_ 4 (q:=mv) (k:=?_))
  refine cO 5 rfl rfl (aa) rfl (gi (vs:= [_,_]) rfl (PR (D:=D) (S:=S) hSB)) (?_)
  refine as_ 6 (q:=ine) (k:=az_ (k:=qn_ (wi_ (k:=λh9=>?_) (m:=λh9=>?_))))
  ·exact absurd h9 (ak)
  refine wk_ (bn_ (qn_ (wr_ (e_ mv (k:=?_)))))
  refine e_ (evq iad (congrArg (Value.int .i64) (show _=(((j+1:Nat):Int)-1)from a8))) (k:=?_)
  refine e_ asn (k:=on_ (?_))
  refine ln_ (j+1) (k:=?_)
  try dsimp only
  omega
 refine we_ (qe_ (le_ (bh_ (qn_ (ws_ (wr_ (e_ mv (k:=e_ fla (k:=e_ ldv (k:=e_ fla (k:=e_ ldv (k:=?_))))))))))))
 refine d3_ rfl (NZ (fv:=a.fv) (rv:=w) (zs:=zs) (fs:=fs) (dl:=dl) (f:=a.f) (s:=a.s) (λz hm=>(hI0 z hm).less (hsb)) hp (a8) (a8)) (k:=?_)
 rw[←hN9]
 refine e_ asn (k:=on_ (qn_ (ws_ (ws_ (wr_ (e_ mv (k:=e_ fla (k:=e_ ldv (k:=e_ fla (k:=e_ ldv (k:=?_)))))))))))
 refine d3_ rfl (Nx (pv:=u) (zs:=zs) (fs:=fs) (dl:=dl) (f:=a.f) (s:=a.s) (λz hm=>(hI0 z hm).less (hsb)) hp (a8) (a8) hsz) (k:=?_)
 rw[←hN9]
 refine e_ mv (k:=e_ ine (k:=sp_ (mv) (k:=λh10=>?_) (m:=λh10=>?_)))
 ·exfalso;have h9:=h10;simp at h9
 refine eg_ fla (k:=eg_ ldv (k:=eg_ fla (k:=eg_ ldv (k:=?_))))
 refine sg_ (uC eSV rfl rfl rfl) (k:=?_)
 rintro _ _ ⟨s101,rfl,rfl⟩
 haveI hso:Sl (Row s101 eSV [sa,sb]::Vr b8 [iN D,sb.val]::Vr b7 [iN D,sa.val]::Vr b6 [iN D,sw.val]::Row sw eI (cP S)::Row u ePt (zs.map pzP)::Row w eRp (zs.map (pzR a.fv))::Cl (pqH dl) zs::Row ud eD (idL 0 svs)::Vr b1 (caV a)::H) s101 eSV (([(sa,cP S),(sb,cP S)]:List (SV×List Int)).map (·.1)):=(inferInstance:Sl (Row s101 eSV [sa,sb]::_) s101 eSV [sa,sb])
 refine eN (H':=Cl rwI [(sa,cP S),(sb,cP S)]::Row s101 eSV [sa,sb]::Vr b8 [iN D,sb.val]::Vr b7 [iN D,sa.val]::Vr b6 [iN D,sw.val]::Row sw eI (cP S)::Row u ePt (zs.map pzP)::Row w eRp (zs.map (pzR a.fv))::Cl (pqH dl) zs::Row ud eD (idL 0 svs)::Vr b1 (caV a)::H) (cH.trans (H':=Row sa eI (cP S)::Row sb eI (cP S)::Row s101 eSV [sa,sb]::Vr b8 [iN D,sb.val]::Vr b7 [iN D,sa.val]::Vr b6 [iN D,sw.val]::Row sw eI (cP S)::Row u ePt (zs.map pzP)::Row w eRp (zs.map (pzR a.fv))::Cl (pqH dl) zs::Row ud eD (idL 0 svs)::Vr b1 (caV a)::H) (hsb) (cH.star (F:= [Row sa eI (cP S),Row sb eI (cP S)]) cH.refl)) ?_
 refine sg_ (v1_ (PS (zs:= [(sa,cP S),(sb,cP S)]) (show 2≤1000000000 from ae) (λx hx=>by simp at hx;rcases hx with rfl|rfl <;> (simp only;omega)))) (k:=?_)
 rintro _ _ ⟨rfl,zs9,_,_,rfl⟩
 refine eg_ jq (k:=e_ pkf (k:=on_ (qn_ (wi_ (k:=λh11=>?_) (m:=λh11=>?_)))))
 ·exfalso;have h9:=h11;simp at h9
 refine wk_ (qn_ (ws_ (wr_ (e_ fla (k:=e_ lds (k:=e_ mv (k:=?_)))))))
 refine c2_ rfl (fu (fv:=a.fv) (pv:=u) (zs:=zs) (fs:=fs) (dl:=dl) (λz hm=>(hI0 z hm).less (hsb)) hp (a8) (a8)) (k:=?_)
 rintro _ _ ⟨s108,rfl,rfl⟩
 rw[←hS9,←hD9]
 refine alc (k:=λb11=>?_)
 refine sto (k:=on_ (qn_ (ws_ (wr_ (e_ fla (k:=e_ ldv (k:=e_ fla (k:=e_ ldv (k:=?_)))))))))
 refine d2_ rfl (zl (xs:=cP S) (ys:=cP S) (a8)) (k:=e_ mv (k:=cQ 9 123 (k:=λh12=>eg_ mv (k:=eg_ fla (k:=eg_ ldv (k:=eg_ fla (k:=eg_ ldv (k:=gA (vs:=[_,_,_]) (hc:=(Nx (pv:=u) (zs:=zs) (fs:=fs) (dl:=dl) (f:=a.f) (s:=a.s) (λz hm=>(hI0 z hm).less (hsb)) hp (a8) (a8) hsz)) (k:=eg_ mv (k:=eg_ ieq (k:=e_ pkt (k:=on_ (edq))))))))))) (q:=e_ asn (k:=on_ (qn_ (wt_ (rT (k:=?_))))))))
 exact⟨_,hsb,congrArg Value.bool (by simp[hN9]),rfl⟩
end Go.Sx
