import Derived.Test.YtjhdcheijnegnaaGreatDoorQ30
import Derived.Test.YtjhdcheijnegnaaGreatDoorQ31
set_option linter.all false
set_option maxHeartbeats 0
namespace Go.Sx
open Go Go.Proofs Tryz
set_option maxRecDepth 100000
section
variable {G:cJ}{H:cG}{ev:SV}{key:ByteArray}{l:List En}{lp:Option Nat}{ps:List Po}{w:Nat}
theorem HG {g n:Nat}{fi ca:List Value}{p:Nat→Bool}(hn:n≤1000000000000) (hf:∀i:Nat,i<n→SC G prog g (fi++ [iN i]++ca) H (λv r=>v=.bool (p i)∧r=H)) (c:∀a b,a≤b→b<n→p a=true→p b=true):
 SC G prog 180 [iN n,.func (.func g) fi.toArray ca.toArray] H (λv r=>(∃k:Nat,v=iN k∧k≤n∧(∀i,i<k→p i=false)∧∀i,k≤i→i<n→p i=true)∧r=H):=by
 refine sWk func180 ?_;refine go ?_;refine wl2_ (Nat×Nat) (λy=>y.1≤y.2∧y.2≤n∧(∀m,m<y.1→p m=false)∧∀m,y.2≤m→m<n→p m=true) (λy=>[(5,iN y.1),(6,iN y.2)]) [(1,_)] (λy=>[]) _ (λy=>y.2-y.1) ((0,n)) (h0:=?_) (k:=?_)
 ·exact⟨Yl _,Xj _,λm hm=>absurd hm a8,λm h1 h2=>absurd h1 a8⟩
 rintro⟨i,j⟩ ⟨hij,q,e,f⟩
 try dsimp only[Yd,Ye]at*
 refine gW (λh1=>?_) λh1=>?_
 ·obtain⟨h,hh⟩:=ex ((i+j)/2);refine wk_ (qn_ (wb_ (ws_ (wr_ (e_ mv (e_ mv ?_))))));refine e_ (evq iad (congrArg (Value.int .i64) (show _=((i+j:Nat):Int)from a8))) ?_;refine e_ ((ab)) ?_;refine e_ (evq (du rfl rfl (i+j) 1 rfl rfl ae) (congrArg (λn:Nat=>uN n) (show(i+j)/2^1=h from a8))) ?_;refine e_ (dL rfl a8) (go ?_);refine s_ (Ew (fi:=fi) (ca:=ca) (vs:= [_]) rfl rfl (hf h a8)) ?_;rintro _ H ⟨rfl,rfl⟩;refine gW (λh2=>?_) λh2=>?_
  ·have d:p h=false:=by simpa using h2
   refine go ?_;refine lN ((h+1,j)) ?_
   try dsimp only
   refine⟨a8,q,λm hm=>?_,f⟩;cases hpm:p m with
   |false=>rfl
   |true=>rw[c m h a8 a8 hpm]at d;cases d
  have l:p h=true:=by simpa using h2
  refine go ?_;refine lN ((i,h)) ?_
  exact⟨a8,a8,e,λm h1 h2=>c h m h1 h2 l⟩
 refine gR ?_;exact⟨_,hsb,⟨i,rfl,a8,e,λm h1 h2=>f m a8 h2⟩,rfl⟩
theorem w4 (h:ru l):∀(d i:Nat) (a b:En),l[i]? =some a→l[i+d+1]? =some b→cF a.key<cF b.key
 | 0,i,a,b,ha,hb=>h.2 i a b ha hb
 |d+1,i,a,b,ha,hb=>by
  have hlt:=(Yk.1 hb).1;have c:l[i+d+1]? =some l[i+d+1]:=Yi a8;exact List.lt_trans (w4 h d i a _ ha c) (h.2 (i+d+1) _ b c hb)
def geK (l:List En) (key:ByteArray) (i:Nat):Bool:=match l[i]? with
 |some e=>!decide (cF e.key<cF key)
 |none=>true
theorem G8 (h:ru l) (a b:Nat) (c:a≤b) (d:b<l.length) (ha:geK l key a=true):geK l key b=true:=by
 have h1:l[a]? =some l[a]:=Yi a8;have h2:l[b]? =some l[b]:=Yi d;rw[geK,h1]at ha;rw[geK,h2];simp only[Vq,Xx]at ha⊢;rcases Uq c with h3|rfl
 ·intro h4;have:=w4 h (b-a-1) a _ l[b] h1 (by rw[show a+(b-a-1)+1=b from a8];exact h2);exact ha (List.lt_trans this h4)
 ·exact ha
theorem Kz {b a i:Nat} [cY H b [pA w]] [cY H a [.string key]] [cY H w [ev.val]] [hs:Sl H ev eEn l] (hi:i<l.length):SC G prog 181 [iN i,pA b,pA a] H (λv c=>v=.bool (geK l key i)∧c=H):=by
 obtain⟨e,he⟩:∃e,l[i]? =some e:=⟨_,Yi hi⟩;refine sWk func181 ?_;refine go ?_;refine cZ cN (as_ 0 (q:=ldv) (k:=as_ 1 (q:=nck) (k:=as_ 2 (q:=fla) (k:=as_ 3 (q:=ldv) (k:=as_ 4 (q:=mv) (k:=as_ 5 (q:=ixa) (k:=as_ 6 (q:=fle) (k:=as_ 7 (q:=lfl (hy:=he)) (k:=as_ 8 (q:=ldv) (k:=?_))))))))));refine cO 9 rfl rfl aa rfl (df PJ) ?_;refine gR ?_;exact⟨_,hsb,by rw[geK,he];all_goals rfl,rfl⟩
theorem N3 [cY H w [ev.val]] [hs:Sl H ev eEn l] (c:ru l) (hl:l.length≤1000000000):SC G prog 109 [pA w,.string key] H (λv j=>(∃k:Nat,v=iN k∧k≤l.length∧(∀i,i<k→geK l key i=false)∧∀i,k≤i→i<l.length→geK l key i=true)∧j=H):=by
 refine sWk func109 ?_;refine gk (k:=bxx (k:=λh=>?_));refine bxx (k:=λg=>?_);refine e_ asn (on_ (qn_ (ws_ (wr_ (e_ ldv (e_ nck (e_ fla (e_ ldv (e_ lnn (e_ mkf ?_))))))))));refine c2_ rfl (HG (n:=l.length) (fi:= []) (ca:= [pA h,pA g]) (p:=geK l key) a8 (λi hi=>Kz (w:=w) (ev:=ev) (key:=key) hi) (λa b h1 h2 h3=>G8 c a b h1 h2 h3)) ?_;rintro _ _ ⟨⟨k,rfl,f,e,d⟩,rfl⟩;refine gR ?_;exact⟨_,hsb,⟨k,rfl,f,e,d⟩,rfl⟩
theorem L7 [cY H w [ev.val]] [hs:Sl H ev eEn l] (d:ru l) (hl:l.length≤1000000000):SC G prog 64 [pA w,.string key] H (λv n=>((∃(i:Nat) (e:En),l[i]? =some e∧cF e.key=cF key∧v=.tuple #[iN i,.bool true])∨((∀e∈l,cF e.key≠cF key)∧v=.tuple #[.int .i64 0,.bool false]))∧n=H):=by
 refine sWk func64 ?_;refine go ?_;refine c2_ rfl (N3 d hl) ?_;rintro _ _ ⟨⟨k,rfl,hk1,f,h⟩,rfl⟩;refine e_ asn (on_ (qn_ (ws_ (ws_ (wr_ (e_ mv (e_ mv (e_ nck (e_ fla (e_ ldv (e_ lnn (e_ ilt (sp_ mv (k:=λh1=>?_) (m:=λh1=>?_))))))))))))))
 ·obtain⟨e,he⟩:=gE l k;refine eg_ mv (eg_ nck (eg_ fla (eg_ ldv (eg_ mv (eg_ ixa (eg_ fle (eg_ (lfl (hy:=he)) (gk (k:=eg_ np (gW (λh2=>?_) (λh2=>?_)))))))))))
  ·have g:cF e.key=cF key:=h2;refine gR ?_;exact⟨_,hsb,.inl ⟨k,e,he,g,rfl⟩,rfl⟩
  have a:∀e∈l,cF e.key≠cF key:=by
   intro x hx b;obtain⟨i,hi⟩:=Uf hx;have j:=(Yk.1 hi).1;rcases Nat.lt_trichotomy i k with h1|h1|h1
   ·have:=f i h1;rw[geK,hi]at this;simp only[Uo,Xs,b]at this;exact oK _ this
   ·subst h1;rw[he]at hi;cases hi;exact absurd b (by first|exact h2|simpa using h2)
   ·have c:l[k]? =some l[k]:=Yi a8;have h2:=w4 d (i-k-1) k _ x c (by rw[show k+(i-k-1)+1=i from a8];exact hi);have:=h k (Xj _) a8;rw[geK,c]at this;simp only[Vq,Xx]at this;rw[b]at h2;exact this h2
  refine gR ?_;exact⟨_,hsb,.inr ⟨a,rfl⟩,rfl⟩
 have hkl:k=l.length:=a8;have a:∀e∈l,cF e.key≠cF key:=by
  intro x hx b;obtain⟨i,hi⟩:=Uf hx;have j:=(Yk.1 hi).1;have:=f i a8;rw[geK,hi]at this;simp only[Uo,Xs,b]at this;exact oK _ this
 refine gk (k:=iff_ (k:=?_));refine gR ?_;exact⟨_,hsb,.inr ⟨a,rfl⟩,rfl⟩
theorem PE {i:Nat}{e:En} [cY H w [ev.val]] [hs:Sl H ev eEn l] (he:l[i]? =some e):SC G prog 66 [pA w,iN i] H (λv a=>v=.tuple #[.agg #[.string e.key,iN e.docs,iN e.tot,iN e.at_,iN e.size],.bool true]∧a=H):=by
 have hlt:=(Yk.1 he).1;refine sWk func66 ?_;refine ws_ (wr_ (alc (k:=λb4=>?_)));refine e_ asn (on_ (qn_ (ws_ (ws_ (wr_ (e_ mv (e_ ilt (e_ mv (dz 8 16 (k:=λh1=>eg_ mv (eg_ mv (eg_ nck (eg_ fla (eg_ ldv (eg_ lnn (eg_ ige (e_ pkf (on_ edq))))))))) (q:=on_ (qn_ (wi_ (k:=λh2=>?_) (m:=λh2=>?_)))))))))))))
 ·exact absurd h2 a8
 refine wk_ (qn_ (ws_ (wr_ (e_ mv (e_ nck (e_ fla (e_ ldv (e_ mv (e_ ixa (e_ (od (hy:=he)) (sto (k:=e_ asn (on_ ?_)))))))))))));refine qn_ (wt_ (rT (k:=?_)));exact⟨_,hsb,rfl,rfl⟩
def m6 (fs:List FV) (ds:List Doc) (f:Nat) (s:ByteArray):List Po:=iD (ofK (eQ fs ds) (f%256::cF s))
theorem IP {a:List Tri}{k:List Nat}(h:k ∉ a.map (·.1)):iD (ofK a k)= []:=by
 have:ofK a k= []:=by
  rw[ofK,List.map_eq_nil_iff,List.filter_eq_nil_iff];intro t b he;exact h (Xw.2 ⟨t,b,Yt he⟩)
 rw[this];all_goals rfl
theorem jC (f:Nat) (s:ByteArray):cF (n7 f s)=f%256::cF s:=by
 rw[n7,dR,ec (by intro x hx;simp at hx;omega)];all_goals rfl
theorem Be (h1:gJ 0 ps) (h2:eG ps) (h3:dn ps≤100000000):om ⟨ps,0,0,false⟩:=⟨h1,h2,h3,Yl _,Yl _⟩
theorem JL:SC G prog 108 [lpV lp] H (λv c=>∃b,v=pA b∧c=Vr b [.int .i64 (-1),.int .i64 0,lpV lp,.int .i64 (-1),.int .i64 (-1),.slice none 0 0,.bool false]::H):=by
 refine sWk func108 ?_;refine ws_ (wr_ (e_ asn (on_ (qn_ (ws_ (wr_ (e_ (bld [(0,_)]) (e_ mv (e_ (bld [(0,_),(1,_),(2,_),(3,_)]) (bxx (k:=λa=>?_)))))))))));refine gR ?_;exact⟨_,hsb,a,rfl,rfl⟩
theorem GI {b:Nat}{im sk:SV}(hk:om ⟨ps,0,0,false⟩) (hl:lp=none→ps= []):cH (Vr b [.int .i64 (-1),.int .i64 0,lpV lp,.int .i64 (-1),.int .i64 (-1),.slice none 0 0,.bool false]::LPh lp im sk ps::H) (CuH b ⟨ps,0,0,false⟩::H):=by
 refine cH.trans (cH.keep (cH.keep ((ja (f:=pgH) cH.refl).trans (cH.nilRow (e:=ePo) cH.refl)))) ?_;exact yI (c:=⟨ps,0,0,false⟩) (x:=⟨lp,im,sk,SV.nil, [], -1⟩) ⟨hk,hl,.inl rfl⟩
theorem AO:SC G prog 63 [] H (λv c=>∃b,v=pA b∧c=CuH b ⟨[],0,0,false⟩::H):=by
 refine sWk func63 ?_;refine go ?_;refine c1_ rfl (JL (lp:=none)) ?_;rintro _ _ ⟨a,rfl,rfl⟩;refine gR ?_;exact⟨_,cH.trans (cH.keep (qh cH.refl)) (GI (lp:=none) (im:=SV.nil) (sk:=SV.nil) (Be (by simp[gJ]) ⟨ae,ak⟩ ae) (λ_=>rfl)),a,rfl,rfl⟩
theorem KG {s:SV} [hg:Glb G H] [hs:Sl H s eB (dD ps)] (a:gJ 0 ps) (hsm:eG ps) (e:dn ps≤100000000) (f:(dD ps).length≤10000000000):SC G prog 67 [s.val] H (λv g=>∃b,v=.tuple #[pA b,.nilIface]∧g=CuH b ⟨ps,0,0,false⟩::H):=by
 refine sWk func67 ?_;refine go ?_;refine c1_ rfl (KF a hsm f) ?_;rintro _ _ ⟨d,im,sk,rfl,rfl⟩;refine e_ mv (e_ exr (e_ exr (e_ asn (e_ asn (on_ (qn_ (ws_ (ws_ (wr_ (e_ mv ?_))))))))));refine e_ (cK rfl) ?_;refine gk (k:=iff_ (k:=go ?_));refine c1_ rfl (JL (lp:=some d)) ?_;rintro _ _ ⟨c,rfl,rfl⟩;refine gR ?_;exact⟨_,GI (lp:=some d) (Be a hsm e) (λh=>aU),c,rfl,rfl⟩
theorem HY {a:PtA}{q:PtD}{f:Nat}{s:ByteArray} [hg:Glb G H] [hp:dT H a q] (l:iU q.fs q.ds) (hf:f<q.fs.length) (E:s.size≤1000000000):SC G prog 30 [pA a.g,iN f,.string s] H (λv H'=>∃b,v=pA b∧H'=CuH b ⟨m6 q.fs q.ds f s,0,0,false⟩::H):=by
 have B:=l.goodT;have S:=LK (eQ q.fs q.ds);obtain⟨_,_,T,hPB⟩:=l.blocks;have hel:=iF (dq (eQ q.fs q.ds)) 0;have hrl:=py (eQ q.fs q.ds);have htk:=l.toks;obtain⟨U,Z,g3⟩:gJ 0 (m6 q.fs q.ds f s)∧eG (m6 q.fs q.ds f s)∧dn (m6 q.fs q.ds f s)≤(eQ q.fs q.ds).length:=lR B;have hpok:=U;refine sWk func30 ?_;refine ws_ (wr_ (e_ asn (on_ (qn_ (ws_ (ws_ (wr_ (e_ mv (e_ ilt (e_ mv (dz 9 24 (k:=λh1=>eg_ mv (eg_ mv (eg_ nck (eg_ fla (eg_ fla (eg_ ldv (eg_ lnn (eg_ ige (e_ pkf (on_ edq)))))))))) (q:=on_ (qn_ ?_)))))))))))));refine wi_ (k:=λh2=>?_) (m:=λh2=>?_)
 ·exact absurd h2 a8
 refine wk_ (qn_ (ws_ ?_));refine wD [7] (λk H=>(k=3→cY H a.g [a.fv.val,a.dv.val,a.lv.val,pA a.w,a.bl.val,a.im.val])) (aF 0 (k:=aF 1 (k:=aF 2 (k:=?_))));refine aN 3 rfl (λH hH=>by have hN:=hH rfl;exact ldv) ?_;refine aF 4 (k:=aF 5 (k:=?_));refine cO 6 rfl rfl aa rfl (λH hH=>v2_ (Ni E)) ?_;refine aS 7 rfl (dy (vs:= [_,_]) rfl (L7 T a8)) ?_;rintro _ H ⟨(⟨i,e,p,R,rfl⟩|⟨M,rfl⟩),rfl⟩
 ·refine aF 8 (k:=aF 9 (k:=aF 10 (k:=aF 11 (k:=aF 12 (k:=aZ (qn_ (ws_ (ws_ (wr_ (e_ mv (e_ jq (on_ (qn_ ?_)))))))))))));refine iff_ (k:=wk_ (qn_ (ws_ (wr_ ?_))));have N:i<(dq (eQ q.fs q.ds)).length:=by have:=(Yk.1 p).1;omega
  obtain⟨r,hr⟩:∃r,(dq (eQ q.fs q.ds))[i]? =some r:=⟨_,Yi N⟩;have h2:=lW (n:=0) hr;rw[h2]at p;obtain rfl:=Xo p;have w:=Yj hr;have F:=S.vals r w;have J:r.1∈(eQ q.fs q.ds).map (·.1):=(S.keys _).1 (Ux w);have K:∀x∈r.1,x<256:=by
   obtain⟨t,ht,C⟩:=Xw.1 J;rw[←C];exact(B.small t ht).2.2.1
  have g:r.1=f%256::cF s:=by
   have:cF (dQ r.1)=cF (n7 f s):=R
   rwa [ec K,jC]at this
  have y:r.2=m6 q.fs q.ds f s:=by rw[F,g];all_goals rfl
  have L:=nu hr;have c:dI (dq (eQ q.fs q.ds))=dI ((dq (eQ q.fs q.ds)).take i)++(dD r.2++dI ((dq (eQ q.fs q.ds)).drop (i+1))):=by
   conv=>lhs;rw[←Xv (i+1) (dq (eQ q.fs q.ds)),dI,List.flatMap_append]
   show dI _++dI _=_;rw[L,Yf]
  obtain⟨A,hA⟩:=ex ((dI ((dq (eQ q.fs q.ds)).take i)).length);have u:((dI (dq (eQ q.fs q.ds))).take (A+(dD r.2).length)).drop A=dD r.2:=by
   rw[c,R8,hA,Xy,show(dI ((dq (eQ q.fs q.ds)).take i)).length+(dD r.2).length-(dI ((dq (eQ q.fs q.ds)).take i)).length=(dD r.2).length from a8,V3]
  have d:A+(dD r.2).length≤(dI (dq (eQ q.fs q.ds))).length:=by rw[c,Ya,Ya,hA];omega
  have hcutS:∀(Y:cG) [Sl Y a.bl eB (dI (dq (eQ q.fs q.ds)))],Sl Y (a.bl.cut 1 A (A+(dD r.2).length)) eB (dD r.2):=λY h=>by
   have:=Sl.cut h (lo:=A) (hi:=A+(dD r.2).length) a8 d;rw[u]at this;exact this
  rw[←y]at U Z g3;rw[Vf,←hA]at h2;refine e_ mv (e_ nck (e_ fla (e_ ldv (e_ mv ?_))));refine c2_ rfl (PE h2) ?_;rintro _ H ⟨rfl,rfl⟩;refine e_ mv (e_ exr (e_ exr (alc (k:=λV=>?_))));refine sto (k:=e_ asn (on_ (qn_ (ws_ ?_))));refine wD [12] (λk H=>(k=3→cY H a.g [a.fv.val,a.dv.val,a.lv.val,pA a.w,a.bl.val,a.im.val])∧(k=5→cY H V [.string (dQ r.1),iN r.2.length,iN (dn r.2),iN A,iN ((dD r.2).length)])∧(k=7→cY H V [.string (dQ r.1),iN r.2.length,iN (dn r.2),iN A,iN ((dD r.2).length)])∧(k=9→cY H V [.string (dQ r.1),iN r.2.length,iN (dn r.2),iN A,iN ((dD r.2).length)])∧(k=11→Sl H a.bl eB (dI (dq (eQ q.fs q.ds))))) (aF 0 (k:=aF 1 (k:=aF 2 (k:=?_))));refine aN 3 rfl (λH hH=>aw) ?_;refine aF 4 (k:=?_);refine aN 5 rfl (λH hH=>aE) ?_;refine aF 6 (k:=?_);refine aN 7 rfl (λH hH=>bZ) ?_;refine aF 8 (k:=?_);refine aN 9 rfl (λH hH=>by have hN:=hH.2.2.2.1 rfl;exact ldv) ?_;refine aF 10 (k:=?_);refine aN 11 rfl (λH hH=>by have hN:=hH.2.2.2.2 rfl;exact fA rfl bA A (A+(dD r.2).length) ⟨_,_,rfl,rfl⟩ ⟨_,_,rfl,a8⟩ a8 d) ?_;refine aS 12 rfl (dy (vs:= [_]) rfl (KG (ps:=r.2) U Z a8 a8)) ?_;rintro _ _ ⟨bc,rfl,rfl⟩;refine aF 13 (k:=aF 14 (k:=aF 15 (k:=aF 16 (k:=aF 17 (k:=aZ (qn_ (ws_ (ws_ (wr_ (e_ mv ?_))))))))));refine e_ (cK rfl) ?_;refine on_ (qn_ (iff_ (k:=wk_ (qn_ (ws_ (wr_ (e_ mv (e_ asn (on_ (qn_ (wt_ (rT (k:=?_)))))))))))));exact⟨CuH bc ⟨r.2,0,0,false⟩::H,hsb,bc,rfl,by rw[y]⟩
 have z:m6 q.fs q.ds f s= []:=IP λhm=>by
  have h1:=(S.keys _).2 hm;obtain⟨r,hr,g⟩:=Xw.1 h1;obtain⟨j,hj⟩:=Uf hr;have h2:=lW (n:=0) hj;refine M _ (Yj h2) ?_;show cF (dQ r.1)=cF (n7 f s);rw[g,jC,ec];intro x hx;rcases Xr.1 hx with rfl|hx
  ·omega
  ·exact jQ _ x hx
 refine aF 8 (k:=aF 9 (k:=aF 10 (k:=aF 11 (k:=aF 12 (k:=aZ (qn_ (ws_ (ws_ (wr_ (e_ mv (e_ jq (on_ (qn_ ?_)))))))))))));refine ift (k:=ws_ (wr_ ?_));refine c0_ rfl AO ?_;rintro _ _ ⟨X,rfl,rfl⟩;refine e_ asn (on_ (qn_ (wt_ (qr_ (rT (k:=?_))))));exact⟨_,hsb,X,rfl,by rw[z]⟩
end
end Go.Sx
