import Derived.Test.YtcbidldebfibkaaGreatDoorQ10
set_option linter.unusedVariables false
set_option linter.unusedSimpArgs false
set_option linter.unusedSectionVars false
set_option linter.unnecessarySimpa false
set_option maxHeartbeats 0
namespace Go.Sx
open Go Go.Proofs
set_option maxRecDepth 100000
def gM:Nat→List Nat→Option (List (Nat×List Nat))
 | 0,l=> if l.length=0 then some []else none
 |n+1,l=>
  match iu l with
  |none=> none
  |some (f,t)=>
   match gM n (l.drop (t+4))with
   |none=> none
   |some r=> some ((l.headD 0,(l.take t).drop f)::r)
def eZ (kind:Nat) (l:List Nat):Option (List (Nat×List Nat)):=
 if l.length<10 then none else
 if jt (l.drop (l.length - 4))=lN (l.take (l.length - 4))then
  if kind=0∨l.take 4≠ [99,110,99,100]∨l[4]? ≠some kind then none else
  match eY 0 (((l.take (l.length - 4)).drop 5).take (min ((l.take (l.length - 4)).drop 5).length 10))with
  | .error _=> none
  | .ok (n,m)=> gM n (((l.take (l.length - 4)).drop 5).drop m)
 else none
def vM (bl:List (Nat×List Nat)):Option (List (Nat×List Nat))→Option (List (Nat×List Nat))
 |none=> none
 |some r=> some (bl++r)
theorem vJ {l:List Nat}{x:Nat}(h:l[0]? =some x):l.headD 0=x:=by
 cases l with
 |nil=> cases h
 |cons a l=> simp at h;exact h
theorem kL.snoc {F:cG}{l:List (Nat×SV)}{bl:List (Nat×List Nat)}(h:kL F l bl) (x:Nat) (s:SV) (body:List Nat):kL (Row s eB body::F) (l++ [(x,s)]) (bl++ [(x,body)]):=by
 obtain⟨h1,h2⟩:=h
 refine⟨by simp[h1],fun i p q hp hq=> ?_⟩
 by_cases hi:i<l.length
 ·rw[Yv hi]at hp
  rw[Yv (a8)]at hq
  obtain⟨h3,h4⟩:=h2 i p q hp hq
  exact⟨h3,inferInstance⟩
 ·rw[Yu (a8)]at hp hq
  have hz:i - l.length=0:=by
   have:=(Yk.1 hp).1
   simp at this;omega
  rw[hz]at hp
  rw[←h1,hz]at hq
  simp at hp hq
  subst hp;subst hq
  exact⟨rfl,inferInstance⟩
theorem kL.nil {F:cG}:kL F [] []:=⟨rfl,fun i p q h=> aR⟩
def DU (p:Nat×SV) (q:Nat×List Nat):Hp:=Row p.2 eB q.2
theorem yA {G:cM}{H:cG}{s:SV}{xs:List Nat} [hg:Glb G H] [Tab H 26 ig] [Tab H 24 fF] [hs:Sl H s eB xs] (kind:Nat) (hk:kind<256) (hn:xs.length≤1000000000) (hb:∀x∈xs,x<256):SC G Tryz.prog 43 [.int .u8 ((kind:Nat):Int),s.val] H (fun v H'=>
 (eZ kind xs=none∧H'=H∧∃e,v= .tuple #[.slice none 0 0,G.err e])∨(∃bl l F,∃s':SV,eZ kind xs=some bl∧kL F l bl∧F=(List.zipWith DU l bl).reverse∧v= .tuple #[s'.val, .nilIface]∧H'=Row s' eK l::dH F::H)):=by
 refine sWk Tryz.func43 Tryz.ntmps43 ?_
 refine go ?_
 refine wi_ (k:=fun h1=>?_) (m:=fun h1=>?_)
 ·have e:eZ kind xs=none:=by rw[eZ,if_pos (a8)]
  refine go ?_
  refine cW cL (as_ 0 (q:=ldv) (k:=as_ 1 (q:=asn) (k:=as_ 2 (q:=asn) (k:=az_ (k:=gk (k:=rt_ Tryz.results43 (k:=?_)))))))
  exact⟨_,hsb, .inl ⟨e,rfl,_,rfl⟩⟩
 have e0:eZ kind xs=if jt (xs.drop (xs.length - 4))=lN (xs.take (xs.length - 4))then if kind=0∨xs.take 4≠ [99,110,99,100]∨xs[4]? ≠some kind then none else
  match eY 0 (((xs.take (xs.length - 4)).drop 5).take (min ((xs.take (xs.length - 4)).drop 5).length 10))with
  | .error _=> none
  | .ok (n,m)=> gM n (((xs.take (xs.length - 4)).drop 5).drop m)
  else none:=by rw[eZ,if_neg (a8)]
 obtain⟨x4,hx4⟩:∃x,xs[4]? =some x:=⟨_,Yi (a8)⟩
 have hx4b:=hb x4 (Yj hx4)
 refine wk_ (qn_ (ws_ (wr_ (e_ mv (k:=e_ lnn (k:=?_))))))
 refine e_ (FP rfl rfl (a8)) (k:=?_)
 refine go ?_
 refine cW cL (?_)
 have hc1:Sl H (s.cut 1 (xs.length - 4) xs.length) eB ((xs.take xs.length).drop (xs.length - 4)):=Sl.cut (e:=eB) inferInstance (a8) (a8)
 rw[List.take_length]at hc1
 have hc2:Sl H (s.cut 1 0 (xs.length - 4)) eB ((xs.take (xs.length - 4)).drop 0):=Sl.cut (e:=eB) inferInstance (a8) (a8)
 rw[List.drop_zero]at hc2
 refine as_ 0 (q:=mv) (k:=as_ 1 (q:=mv) (k:=?_))
 refine cH 2 rfl rfl (aa) rfl (du (ef rfl (aI) (xs.length - 4) xs.length ⟨_,_,rfl,a8⟩ rfl (a8) (a8))) (?_)
 refine cH 3 rfl rfl (aa) rfl (j9 (vs:= [_]) rfl (Dd (aC) (fun y hy=> hb y (Yp hy)))) (?_)
 refine as_ 4 (q:=mv) (k:=as_ 5 (q:=mv) (k:=?_))
 refine cH 6 rfl rfl (aa) rfl (du (ef rfl (aI) 0 (xs.length - 4) rfl ⟨_,_,rfl,a8⟩ (a8) (a8))) (?_)
 refine cH 7 rfl rfl (aa) rfl (j9 (vs:= [_]) rfl (DP (ax) (fun y hy=> hb y (Yq hy)))) (?_)
 refine as_ 8 (q:=ine) (k:=az_ (k:=gk (k:=wi_ (k:=fun h2=>?_) (m:=fun h2=>?_))))
 ·rw[if_neg (a8)]at e0
  refine go ?_
  refine cW cL (as_ 0 (q:=ldv) (k:=as_ 1 (q:=asn) (k:=as_ 2 (q:=asn) (k:=az_ (k:=gk (k:=rt_ Tryz.results43 (k:=?_)))))))
  exact⟨_,hsb, .inl ⟨e0,rfl,_,rfl⟩⟩
 rw[if_pos (a8)]at e0
 refine wk_ (qn_ (ws_ (ws_ (wr_ (?_)))))
 have hc3:Sl H (s.cut 1 0 4) eB ((xs.take 4).drop 0):=Sl.cut (e:=eB) inferInstance (a8) (a8)
 rw[List.drop_zero]at hc3
 refine e_ mv (k:=e_ ieq (k:=sp_ (mv) (k:=fun h3=>?_) (m:=fun h3=>?_)))
 ·refine go ?_
  refine ift (k:=go ?_)
  refine cW cL (as_ 0 (q:=ldv) (k:=as_ 1 (q:=asn) (k:=as_ 2 (q:=asn) (k:=az_ (k:=gk (k:=rt_ Tryz.results43 (k:=?_)))))))
  refine⟨_,hsb, .inl ⟨?_,rfl,_,rfl⟩⟩
  rw[e0,if_pos]
  first
   |exact .inl (a8)
   |exact .inr (.inl (ay))
   |exact .inr (.inr (bR))
 refine eg_ mv (k:=?_)
 refine eg_ (ef rfl (aI) 0 4 rfl ⟨_,_,rfl,rfl⟩ (a8) (a8)) (k:=?_)
 refine eg_ (cV rfl) (k:=?_)
 refine eg_ (kC rfl rfl (fun y hy=> hb y (Yq hy)) (ys:= [99,110,99,100]) (an)) (k:=?_)
 refine e_ pkf (k:=sp_ (mv) (k:=fun h4=>?_) (m:=fun h4=>?_))
 ·refine gk (k:=ift (k:=go ?_))
  refine cW cL (as_ 0 (q:=ldv) (k:=as_ 1 (q:=asn) (k:=as_ 2 (q:=asn) (k:=az_ (k:=gk (k:=rt_ Tryz.results43 (k:=?_)))))))
  refine⟨_,hsb, .inl ⟨?_,rfl,_,rfl⟩⟩
  rw[e0,if_pos]
  first
   |exact .inl (a8)
   |exact .inr (.inl (ay))
   |exact .inr (.inr (bR))
 refine eg_ mv (k:=?_)
 refine eg_ (cO rfl rfl 4 rfl (a8)) (k:=?_)
 refine eg_ (dq rfl (aI) (aI) x4 hx4) (k:=?_)
 refine gk (k:=wi_ (k:=fun h5=>?_) (m:=fun h5=>?_))
 ·refine go ?_
  refine cW cL (as_ 0 (q:=ldv) (k:=as_ 1 (q:=asn) (k:=as_ 2 (q:=asn) (k:=az_ (k:=gk (k:=rt_ Tryz.results43 (k:=?_)))))))
  refine⟨_,hsb, .inl ⟨?_,rfl,_,rfl⟩⟩
  rw[e0,if_pos]
  first
   |exact .inl (a8)
   |exact .inr (.inl (ay))
   |exact .inr (.inr (bR))
 refine wk_ (qn_ (ws_ (wr_ (?_))))
 rw[if_neg (by
  rintro(h|h|h)
  ·omega
  ·exact h (ay)
  ·exact h (by rw[hx4];congr 1;omega))]at e0
 refine go ?_
 refine iP H rfl (5) (xs.length - 4) ⟨_,_,rfl,(aG)⟩ ⟨_,_,rfl,(aG)⟩ (a8) (aE) rfl (fun s1 i1=>?_)
 obtain⟨rs,hrs⟩:∃rs,rs=(xs.take (xs.length - 4)).drop 5:=⟨_,rfl⟩
 rw[←hrs]at i1 e0
 have hbr:∀y∈rs,y<256:=fun y hy=> hb y (Yq (Yp (hrs ▸ hy)))
 have hlr:rs.length=xs.length - 9:=by rw[hrs,Yo,Yg];omega
 refine e_ asn (k:=on_ (qn_ (ws_ (wr_ (e_ mv (k:=e_ mv (k:=e_ lnn (k:=?_))))))))
 refine e_ (uD rfl rfl) (k:=?_)
 refine iP H rfl (0) (min rs.length 10) rfl ⟨_,_,rfl,(aG)⟩ (a8) (aE) rfl (fun s2 i2=>?_)
 rw[List.drop_zero]at i2
 refine c1_ rfl (jo (ax)) (k:=?_)
 rintro _ _ ⟨b1,rfl,rfl⟩
 refine go ?_
 refine c1_ rfl (pY (Yl _) (ax) (fun y hy=> hbr y (Yq hy))) (k:=?_)
 rintro v1 H1 hK
 rw[List.drop_zero]at hK
 rcases hK with⟨e,he,rfl,rfl⟩|⟨n,m,he,rfl,rfl⟩
 ·rw[he]at e0
  refine e_ mv (k:=e_ exr (k:=e_ exr (k:=e_ asn (k:=e_ asn (k:=on_ (qn_ (ws_ (ws_ (wr_ (e_ mv (k:=?_)))))))))))
  refine e_ (cR rfl) (k:=?_)
  refine gk (k:=ift (k:=gk (k:=rt_ Tryz.results43 (k:=?_))))
  exact⟨_,hsb, .inl ⟨e0,rfl,_,rfl⟩⟩
 obtain⟨p1,p2,p3,p4,p5,p6⟩:=gZ _ 0 n m (fun y hy=> hbr y (Yq hy)) (a8) he
 rw[Yg]at p4
 rw[he]at e0
 replace e0:eZ kind xs=gM n (rs.drop m):=e0
 refine e_ mv (k:=e_ exr (k:=e_ exr (k:=e_ asn (k:=e_ asn (k:=on_ (qn_ (ws_ (ws_ (wr_ (e_ mv (k:=?_)))))))))))
 refine e_ (cN rfl) (k:=?_)
 refine gk (k:=dw (k:=go ?_))
 refine d1_ rfl (wu) (k:=?_)
 refine iP H rfl (m) (rs.length) ⟨_,_,rfl,(aG)⟩ rfl (a8) (aE) rfl (fun s3 i3=>?_)
 rw[List.take_length]at i3
 refine gk (k:=wl_ (SV×SV×Nat×List Nat×List (Nat×SV)×List (Nat×List Nat)×cG) (fun y=> Sl H y.2.1 eB y.2.2.2.1∧(∀z∈y.2.2.2.1,z<256)∧kL y.2.2.2.2.2.2 y.2.2.2.2.1 y.2.2.2.2.2.1∧y.2.2.1<18446744073709551616∧y.2.2.2.2.1.length+y.2.2.2.1.length≤1000000000∧eZ kind xs=vM y.2.2.2.2.2.1 (gM y.2.2.1 y.2.2.2.1)∧y.2.2.2.2.2.2=(List.zipWith DU y.2.2.2.2.1 y.2.2.2.2.2.1).reverse) (fun y=> [(7,y.2.1.val),(9, .int .u64 ((y.2.2.1:Nat):Int)),(11,y.1.val)]) (fun y=> Row y.1 eK y.2.2.2.2.1::dH y.2.2.2.2.2.2::H) (fun y=> y.2.2.1) ((SV.nil,s3,n,rs.drop m, [], [], [])) (h0:=?_) (k:=?_))
 ·try dsimp only
  refine⟨i3,fun z hz=> hbr z (Yp hz),kL.nil,a8,by rw[Yo];simp only[Yc];omega,?_,rfl⟩
  rw[e0]
  cases gM n (rs.drop m)with
  |none=> rfl
  |some r=> rfl
 rintro⟨sb,sr,n',r,l,bl,F⟩ ⟨hsr,hbz,hB,hn',hlen,hI,hF⟩
 try dsimp only at*
 refine gk (k:=wi_ (k:=fun h6=>?_) (m:=fun h6=>?_))
 ·obtain⟨d,rfl⟩:∃d,n'=d+1:=⟨n' - 1,a8⟩
  rw[gM]at hI
  refine go ?_
  refine c1_ rfl (Iv (xs:=r) (a8) hbz) (k:=?_)
  rintro v1 H1 hK
  rcases hK with⟨he2,rfl,e,rfl⟩|⟨f,q,x,s5,he2,hft,htl,hx,rfl,rfl⟩
  all_goals rw[he2]at hI
  all_goals simp only[]at hI
  ·refine gk (k:=alc (k:=fun b1=>?_))
   refine sto (k:=e_ asn (k:=e_ asn (k:=on_ (qn_ (ws_ (ws_ (wr_ (e_ mv (k:=?_)))))))))
   refine e_ (cR rfl) (k:=?_)
   refine gk (k:=ift (k:=go ?_))
   refine gk (k:=rt_ Tryz.results43 (k:=?_))
   exact⟨_,hsb, .inl ⟨hI,rfl,_,rfl⟩⟩
  refine gk (k:=alc (k:=fun b2=>?_))
  refine sto (k:=e_ asn (k:=e_ asn (k:=on_ (qn_ (ws_ (ws_ (wr_ (e_ mv (k:=?_)))))))))
  refine e_ (cN rfl) (k:=?_)
  refine gk (k:=dw (k:=gk (k:=dD eK (k:=fun s1=>?_))))
  refine app (k:=fun s2=>?_)
  refine go ?_
  refine iP H rfl (q+4) (r.length) ⟨_,_,rfl,(aG)⟩ rfl (a8) (aE) rfl (fun s4 i4=>?_)
  rw[List.take_length]at i4
  refine e_ asn (k:=on_ (bn_ (qn_ (wr_ (e_ mv (k:=?_))))))
  refine e_ (qv 18446744073709551616 rfl rfl rfl rfl _ 1 rfl rfl (a8) (a8)) (k:=?_)
  refine go ?_
  refine ln_ ((s2,s4,d,r.drop (q+4),l++ [(x,s5)],bl++ [(x,(r.take q).drop f)],Row s5 eB ((r.take q).drop f)::F)) (k:=?_)
  try dsimp only
  refine⟨i4,fun z hz=> hbz z (Yp hz),hB.snoc x s5 _,a8,by rw[Ya,Yo];simp only[Yb,Yc];omega,?_,by rw[List.zipWith_append hB.1,hF,List.reverse_append];rfl⟩
  rw[hI,vJ hx]
  cases gM d (r.drop (q+4))with
  |none=> rfl
  |some r'=> simp[vM]
 obtain rfl:n'=0:=a8
 rw[gM]at hI
 refine gk (k:=wi_ (k:=fun h7=>?_) (m:=fun h7=>?_))
 ·rw[if_neg (a8)]at hI
  refine go ?_
  refine cW cL (as_ 0 (q:=ldv) (k:=as_ 1 (q:=asn) (k:=as_ 2 (q:=asn) (k:=az_ (k:=gk (k:=rt_ Tryz.results43 (k:=?_)))))))
  exact⟨_,hsb, .inl ⟨hI,rfl,_,rfl⟩⟩
 rw[if_pos (a8)]at hI
 refine gk (k:=rt_ Tryz.results43 (k:=?_))
 exact⟨_,hsb, .inr ⟨bl,l,F,sb,by rw[hI];simp[vM],hB,hF,rfl,rfl⟩⟩
theorem By {G:cM}{H:cG}{s:SV}{xs:List Nat} [hg:Glb G H] [Tab H 26 ig] [Tab H 24 fF] [hs:Sl H s eB xs] (kind:Nat) (hk:kind<256) (hn:xs.length≤1000000000) (hb:∀x∈xs,x<256):SC G Tryz.prog 43 [.int .u8 ((kind:Nat):Int),s.val] H (fun v H'=>
 (eZ kind xs=none∧H'=H∧∃e,v= .tuple #[.slice none 0 0,G.err e])∨(∃bl l F,∃s':SV,eZ kind xs=some bl∧kL F l bl∧v= .tuple #[s'.val, .nilIface]∧H'=Row s' eK l::dH F::H)):=
 (yA kind hk hn hb).mono fun v H' h=> h.imp id fun⟨bl,l,F,s',h1,h2,_,h3,h4⟩=> ⟨bl,l,F,s',h1,h2,h3,h4⟩
structure FV where
 name:ByteArray
 kind:Int
 fold:Bool
 stop:Bool
 stem:Bool
def eF:Enc FV:=⟨fun p=> [.string p.name, .int .i64 p.kind, .bool p.fold, .bool p.stop, .bool p.stem],5,true,fun _=> rfl,fun p v h=> by simp at h;rcases h with rfl|rfl|rfl|rfl|rfl <;> rfl,ag,fun h=> aR,ag⟩
instance {p:FV}:kK eF p (.agg [.string p.name, .int .i64 p.kind, .bool p.fold, .bool p.stop, .bool p.stem].toArray):=⟨rfl⟩
instance {n:ByteArray}{k:Int}{a b c:Bool}:fH eF (.agg [.string n, .int .i64 k, .bool a, .bool b, .bool c].toArray) ⟨n,k,a,b,c⟩:=⟨rfl⟩
def lF (i c:Nat):Bool:=decide ((97≤c∧c≤122)∨(i≠0∧(c=95∨(48≤c∧c≤57))))
def oZ:Nat→List Nat→Bool
 |_, []=> true
 |i,c::r=> lF i c && oZ (i+1) r
def ij (l:List Nat):Bool:=decide (1≤l.length∧l.length≤32) && oZ 0 l
def fZ (f:FV):Bool:=if f.kind=1 then true else if f.kind=2∨f.kind=3 then !f.fold && !f.stop && !f.stem else false
def qF:List (List Nat)→List FV→Bool
 |_, []=> true
 |seen,f::r=> !decide (cF f.name∈seen) && (ij (cF f.name) && (fZ f && qF (seen++ [cF f.name]) r))
def e7 (fs:List FV):Bool:=decide (1≤fs.length∧fs.length≤16) && qF [] fs
theorem FE {G:cM}{H:cG}(s:ByteArray) (hn:s.size≤1000000000000):SC G Tryz.prog 114 [.string s] H (fun v H'=> v= .bool (ij (cF s))∧H'=H):=by
 have hs:=cJ s
 refine sWk Tryz.func114 Tryz.ntmps114 ?_
 refine ws_ (wr_ (e_ asn (k:=on_ (qn_ (ws_ (ws_ (wr_ (e_ mv (k:=e_ jA (k:=e_ ilt (k:=sp_ (mv) (k:=fun h1=>?_) (m:=fun h1=>?_))))))))))))
 ·refine gk (k:=ift (k:=go ?_))
  refine rt_ Tryz.results114 (k:=?_)
  have e:ij (cF s)=false:=bj
  exact⟨_,cK.refl,by rw[e];rfl,rfl⟩
 refine gk (k:=wi_ (k:=fun h2=>?_) (m:=fun h2=>?_))
 ·refine gk (k:=rt_ Tryz.results114 (k:=?_))
  have e:ij (cF s)=false:=bj
  exact⟨_,cK.refl,by rw[e];rfl,rfl⟩
 have e:ij (cF s)=oZ 0 (cF s):=by unfold ij;rw[Ys (a8)];rfl
 refine gk (k:=wl_ (Nat) (fun i=> i≤s.size∧ij (cF s)=oZ i ((cF s).drop i)) (fun i=> [(0, .string s),(15, .int .i64 ((s.size:Nat):Int)),(16, .int .i64 ((i:Nat):Int))]) (fun _=> H) (fun i=> s.size - i) (0) (h0:=?_) (k:=?_))
 ·try dsimp only
  exact⟨Yl _,by rw[e,List.drop_zero]⟩
 rintro i ⟨hi,hI⟩
 try dsimp only at*
 refine gk (k:=wi_ (k:=fun h3=>?_) (m:=fun h3=>?_))
 ·obtain⟨c,hc⟩:∃c,(cF s)[i]? =some c:=⟨_,Yi (a8)⟩
  rw[dV hc,oZ]at hI
  refine wk_ (qn_ (ws_ (wb_ (ws_ (wr_ (e_ mv (k:=e_ asn (k:=on_ (qn_ (ws_ (wr_ (e_ mv (k:=e_ mv (k:=?_))))))))))))))
  refine e_ (ng rfl rfl _ rfl _ (by first|assumption|rfl|exact Yi (a8))) (k:=?_)
  refine e_ asn (k:=on_ (qn_ (ws_ (wr_ (e_ mv (k:=e_ ige (k:=sp_ (mv) (k:=fun h4=>?_) (m:=fun h4=>?_))))))))
  ·refine eg_ mv (k:=eg_ ile (k:=e_ pkt (k:=e_ asn (k:=on_ (qn_ (ws_ (wr_ (e_ mv (k:=e_ oQ (k:=sp_ (mv) (k:=fun h5=>?_) (m:=fun h5=>?_)))))))))))
   ·refine eg_ mv (k:=eg_ ieq (k:=oP (mv) (k:=fun h6=>?_) (m:=fun h6=>?_)))
    ·refine go ?_
     refine ift (k:=gk (k:=rt_ Tryz.results114 (k:=?_)))
     exact⟨_,cK.refl,ak,rfl⟩
    refine eg_ mv (k:=eg_ ine (k:=oP (mv) (k:=fun h7=>?_) (m:=fun h7=>?_)))
    ·refine eg_ mv (k:=eg_ ilt (k:=oP (mv) (k:=fun h8=>?_) (m:=fun h8=>?_)))
     ·refine gk (k:=ift (k:=go ?_))
      refine gk (k:=rt_ Tryz.results114 (k:=?_))
      exact⟨_,cK.refl,ak,rfl⟩
     refine gk (k:=wi_ (k:=fun h9=>?_) (m:=fun h9=>?_))
     ·refine gk (k:=rt_ Tryz.results114 (k:=?_))
      exact⟨_,cK.refl,ak,rfl⟩
     refine go ?_
     refine ln_ (i+1) (k:=?_)
     try dsimp only
     refine⟨a8,?_⟩
     rw[hI,show lF i c=true from Ys (a8),Bool.true_and]
    refine gk (k:=dw (k:=go ?_))
    refine go ?_
    refine ln_ (i+1) (k:=?_)
    try dsimp only
    refine⟨a8,?_⟩
    rw[hI,show lF i c=true from Ys (a8),Bool.true_and]
   refine go ?_
   refine gk (k:=dw (k:=go ?_))
   refine ln_ (i+1) (k:=?_)
   try dsimp only
   refine⟨a8,?_⟩
   rw[hI,show lF i c=true from Ys (a8),Bool.true_and]
  refine of_ (k:=of_ (k:=e_ pkf (k:=e_ asn (k:=on_ (qn_ (ws_ (wr_ (e_ mv (k:=e_ oQ (k:=e_ mv (k:=eg_ mv (k:=eg_ ieq (k:=oP (mv) (k:=fun h10=>?_) (m:=fun h10=>?_))))))))))))))
  ·refine go ?_
   refine ift (k:=gk (k:=rt_ Tryz.results114 (k:=?_)))
   exact⟨_,cK.refl,ak,rfl⟩
  refine eg_ mv (k:=eg_ ine (k:=oP (mv) (k:=fun h11=>?_) (m:=fun h11=>?_)))
  ·refine eg_ mv (k:=eg_ ilt (k:=oP (mv) (k:=fun h12=>?_) (m:=fun h12=>?_)))
   ·refine gk (k:=ift (k:=go ?_))
    refine gk (k:=rt_ Tryz.results114 (k:=?_))
    exact⟨_,cK.refl,ak,rfl⟩
   refine gk (k:=wi_ (k:=fun h13=>?_) (m:=fun h13=>?_))
   ·refine gk (k:=rt_ Tryz.results114 (k:=?_))
    exact⟨_,cK.refl,ak,rfl⟩
   refine go ?_
   refine ln_ (i+1) (k:=?_)
   try dsimp only
   refine⟨a8,?_⟩
   rw[hI,show lF i c=true from Ys (a8),Bool.true_and]
  refine gk (k:=dw (k:=go ?_))
  refine go ?_
  refine ln_ (i+1) (k:=?_)
  try dsimp only
  refine⟨a8,?_⟩
  rw[hI,show lF i c=true from Ys (a8),Bool.true_and]
 obtain rfl:i=s.size:=a8
 rw[List.drop_of_length_le (a8),oZ]at hI
 refine gk (k:=rt_ Tryz.results114 (k:=?_))
 exact⟨_,cK.refl,by rw[hI];rfl,rfl⟩
theorem FF {G:cM}{H:cG}(f:FV):SC G Tryz.prog 115 [.agg [.string f.name, .int .i64 f.kind, .bool f.fold, .bool f.stop, .bool f.stem].toArray] H (fun v H'=> v= .bool (fZ f)∧H'=H):=by
 refine sWk Tryz.func115 Tryz.ntmps115 ?_
 refine gk (k:=bxx (k:=fun b1=>?_))
 refine go ?_
 refine gk (k:=wi_ (k:=fun h1=>?_) (m:=fun h1=>?_))
 ·refine gk (k:=rt_ Tryz.results115 (k:=?_))
  exact⟨_,hsb,by unfold fZ;rw[if_pos (ay)];rfl,rfl⟩
 refine gk (k:=wi_ (k:=fun h2=>?_) (m:=fun h2=>?_))
 ·refine gk (k:=wi_ (k:=fun h3=>?_) (m:=fun h3=>?_))
  ·refine ws_ (wr_ (e_ fla (k:=e_ ldv (k:=e_ oQ (k:=sp_ (mv) (k:=fun h4=>?_) (m:=fun h4=>?_))))))
   ·refine eg_ fla (k:=eg_ ldv (k:=eg_ oQ (k:=e_ pkt (k:=sp_ (mv) (k:=fun h5=>?_) (m:=fun h5=>?_)))))
    ·refine gk (k:=rt_ Tryz.results115 (k:=?_))
     exact⟨_,hsb,aA,rfl⟩
    refine gk (k:=rt_ Tryz.results115 (k:=?_))
    exact⟨_,hsb,aA,rfl⟩
   refine go ?_
   refine gk (k:=rt_ Tryz.results115 (k:=?_))
   exact⟨_,hsb,aA,rfl⟩
  refine gk (k:=rt_ Tryz.results115 (k:=?_))
  exact⟨_,hsb,by unfold fZ;rw[if_neg (a8),if_neg (a8)];rfl,rfl⟩
 refine gk (k:=wi_ (k:=fun h6=>?_) (m:=fun h6=>?_))
 ·refine ws_ (wr_ (e_ fla (k:=e_ ldv (k:=e_ oQ (k:=sp_ (mv) (k:=fun h7=>?_) (m:=fun h7=>?_))))))
  ·refine eg_ fla (k:=eg_ ldv (k:=eg_ oQ (k:=e_ pkt (k:=sp_ (mv) (k:=fun h8=>?_) (m:=fun h8=>?_)))))
   ·refine gk (k:=rt_ Tryz.results115 (k:=?_))
    exact⟨_,hsb,aA,rfl⟩
   refine gk (k:=rt_ Tryz.results115 (k:=?_))
   exact⟨_,hsb,aA,rfl⟩
  refine go ?_
  refine gk (k:=rt_ Tryz.results115 (k:=?_))
  exact⟨_,hsb,aA,rfl⟩
 refine gk (k:=rt_ Tryz.results115 (k:=?_))
 exact⟨_,hsb,by unfold fZ;rw[if_neg (a8),if_neg (a8)];rfl,rfl⟩
def nm (f:FV):List Nat:=cF f.name
theorem po {G:cM}{H:cG}{s:SV}{fs:List FV} [hg:Glb G H] [hs:Sl H s eF fs] (hn:fs.length≤1000000000) (hf:∀f∈fs,f.name.size≤1000000000000):SC G Tryz.prog 71 [.agg [s.val].toArray] H (fun v H'=> H'=H∧((e7 fs=false∧v=G.err 0)∨(e7 fs=true∧v= .nilIface))):=by
 refine sWk Tryz.func71 Tryz.ntmps71 ?_
 refine gk (k:=bxx (k:=fun b1=>?_))
 refine e_ asn (k:=on_ (qn_ (ws_ (ws_ (wr_ (e_ fla (k:=e_ ldv (k:=e_ lnn (k:=e_ ilt (k:=sp_ (mv) (k:=fun h1=>?_) (m:=fun h1=>?_)))))))))))
 ·refine gk (k:=ift (k:=go ?_))
  refine gk (k:=rt_ Tryz.results71 (k:=?_))
  have e:e7 fs=false:=bz
  exact⟨_,hsb,rfl, .inl ⟨e,rfl⟩⟩
 refine gk (k:=wi_ (k:=fun h2=>?_) (m:=fun h2=>?_))
 ·refine gk (k:=rt_ Tryz.results71 (k:=?_))
  have e:e7 fs=false:=bz
  exact⟨_,hsb,rfl, .inl ⟨e,rfl⟩⟩
 refine wk_ (qn_ (ws_ (wr_ (?_))))
 have e:e7 fs=qF [] fs:=by unfold e7;rw[Ys (a8)];rfl
 refine go ?_
 refine s_ (zu rfl) (k:=?_)
 rintro _ _ ⟨m1,rfl,rfl⟩
 refine gk (k:=wl_ (Nat×List (List Nat)) (fun y=> y.1≤fs.length∧e7 fs=qF y.2 (fs.drop y.1)) (fun y=> [(1, .pointer (some ⟨b1,0,none⟩)),(3, .map (some m1)),(24,s.val),(25, .int .i64 ((fs.length:Nat):Int)),(26, .int .i64 ((y.1:Nat):Int))]) (fun y=> Mp m1 y.2::H) (fun y=> fs.length - y.1) ((0, [])) (h0:=?_) (k:=?_))
 ·try dsimp only
  exact⟨Yl _,by rw[e,List.drop_zero]⟩
 rintro⟨i,seen⟩ ⟨hi,hI⟩
 try dsimp only at*
 refine gk (k:=wi_ (k:=fun h3=>?_) (m:=fun h3=>?_))
 ·obtain⟨f,hfi⟩:∃f,fs[i]? =some f:=⟨_,Yi (a8)⟩
  have hfn:=hf f (Yj hfi)
  rw[dV hfi,qF]at hI
  refine gk (k:=alc (k:=fun b2=>?_))
  refine go ?_
  refine s_ (C7 rfl rfl) (k:=?_)
  rintro _ _ ⟨⟨lv1,rfl⟩,rfl⟩
  refine e_ mv (k:=e_ exr (k:=e_ exr (k:=e_ asn (k:=e_ asn (k:=on_ (qn_ (ws_ (wr_ (e_ mv (k:=sp_ (mv) (k:=fun h4=>?_) (m:=fun h4=>?_)))))))))))
  ·refine gk (k:=ift (k:=go ?_))
   refine gk (k:=rt_ Tryz.results71 (k:=?_))
   refine⟨_,hsb,rfl, .inl ⟨?_,rfl⟩⟩
   rw[hI];simp_all
  refine go ?_
  refine sg_ (dm (vs:= [_]) rfl (FE f.name hfn)) (k:=?_)
  rintro _ _ ⟨rfl,rfl⟩
  refine eg_ oQ (k:=e_ pkf (k:=sp_ (mv) (k:=fun h5=>?_) (m:=fun h5=>?_)))
  ·refine gk (k:=ift (k:=go ?_))
   refine gk (k:=rt_ Tryz.results71 (k:=?_))
   refine⟨_,hsb,rfl, .inl ⟨?_,rfl⟩⟩
   rw[hI];simp_all
  refine go ?_
  refine sg_ (dm (vs:= [_]) rfl (FF f)) (k:=?_)
  rintro _ _ ⟨rfl,rfl⟩
  refine gk (k:=wi_ (k:=fun h6=>?_) (m:=fun h6=>?_))
  ·refine gk (k:=rt_ Tryz.results71 (k:=?_))
   refine⟨_,hsb,rfl, .inl ⟨?_,rfl⟩⟩
   rw[hI];simp_all
  refine go ?_
  refine s_ (wm rfl rfl rfl (ay)) (k:=?_)
  rintro _ _ ⟨rfl,rfl⟩
  refine go ?_
  refine ln_ ((i+1,seen++ [cF f.name])) (k:=?_)
  try dsimp only
  refine⟨a8,?_⟩
  rw[hI];simp_all
 obtain rfl:i=fs.length:=a8
 rw[List.drop_of_length_le (Nat.le_refl _),qF]at hI
 refine gk (k:=rt_ Tryz.results71 (k:=?_))
 exact⟨_,hsb,rfl, .inr ⟨hI,rfl⟩⟩
def kB (f:FV):Nat:=f.kind.toNat+(if f.fold then 4 else 0)+(if f.stop then 8 else 0)+(if f.stem then 16 else 0)
def eM (f:FV):List Nat:=uv f.name.size++cF f.name++ [kB f]
def gC (fs:List FV):List Nat:=fs.flatMap eM
def fq (fs:List FV):List Nat:=uv fs.length++gC fs
theorem eh (l:List FV) (f:FV):gC (l++ [f])=gC l++eM f:=cC
theorem yU:∀(fs:List FV) (seen:List (List Nat)),qF seen fs=true→∀f∈fs,ij (cF f.name)=true∧fZ f=true
 | [],_,_,f,h=> bC
 |a::r,seen,hc,f,h=> by
  simp only[qF,Bool.and_eq_true]at hc
  rcases List.mem_cons.1 h with rfl|h
  ·exact⟨hc.2.1,hc.2.2.1⟩
  ·exact yU r _ hc.2.2.2 f h
theorem CI {l:List Nat}(h:ij l=true):1≤l.length∧l.length≤32:=by
 simp only[ij,Bool.and_eq_true,decide_eq_true_eq]at h;exact h.1
theorem Ai {f:FV}(h:fZ f=true):f.kind=1∨(f.kind=2∨f.kind=3)∧f.fold=false∧f.stop=false∧f.stem=false:=by
 unfold fZ at h
 split at h
 ·exact .inl (ay)
 ·split at h
  ·simp only[Bool.and_eq_true,Bool.not_eq_true']at h
   exact .inr ⟨ay,h.1.1,h.1.2,h.2⟩
  ·cases h
theorem eG {fs:List FV}(h:e7 fs=true):(1≤fs.length∧fs.length≤16)∧∀f∈fs,f.name.size≤32∧1≤f.kind∧f.kind≤3:=by
 simp only[e7,Bool.and_eq_true,decide_eq_true_eq]at h
 refine⟨h.1,fun f hf=> ?_⟩
 obtain⟨h1,h2⟩:=yU fs [] h.2 f hf
 have h3:=CI h1
 rw[cJ]at h3
 rcases Ai h2 with h4|⟨h4,_⟩ <;> omega
theorem Ko:∀(k:Fin 4) (a b c:Bool),(let x:=if a then k.val ||| 4 else k.val;let y:=if b then x ||| 8 else x;if c then y ||| 16 else y)=k.val+(if a then 4 else 0)+(if b then 8 else 0)+(if c then 16 else 0):=ag
theorem Me (f:FV) (h:f.kind.toNat≤3):(if f.stem then(if f.stop then(if f.fold then f.kind.toNat ||| 4 else f.kind.toNat) ||| 8 else(if f.fold then f.kind.toNat ||| 4 else f.kind.toNat)) ||| 16 else(if f.stop then(if f.fold then f.kind.toNat ||| 4 else f.kind.toNat) ||| 8 else(if f.fold then f.kind.toNat ||| 4 else f.kind.toNat)))=kB f:=
 Ko ⟨f.kind.toNat,a8⟩ f.fold f.stop f.stem
theorem B1 {G:cM}{H:cG}{s:SV}{fs:List FV} [hg:Glb G H] [hs:Sl H s eF fs] (hn:fs.length≤1000000000) (hf:∀f∈fs,f.name.size≤1000000000000):SC G Tryz.prog 35 [.agg [s.val].toArray] H (fun v H'=> (e7 fs=false∧v= .tuple #[.slice none 0 0,G.err 0]∧H'=H)∨(e7 fs=true∧∃s':SV,v= .tuple #[s'.val, .nilIface]∧H'=Row s' eB (fq fs)::H)):=by
 refine sWk Tryz.func35 Tryz.ntmps35 ?_
 refine gk (k:=bxx (k:=fun b1=>?_))
 refine go ?_
 refine c1_ rfl (po hn hf) (k:=?_)
 rintro v1 H1 hK
 rcases hK with⟨rfl,⟨hc,rfl⟩|⟨hc,rfl⟩⟩
 ·refine e_ asn (k:=on_ (qn_ (ws_ (wr_ (e_ mv (k:=?_))))))
  refine e_ (cR rfl) (k:=?_)
  refine gk (k:=ift (k:=gk (k:=rt_ Tryz.results35 (k:=?_))))
  exact⟨_,hsb, .inl ⟨hc,rfl,rfl⟩⟩
 obtain⟨⟨hl1,hl2⟩,hfl⟩:=eG hc
 refine e_ asn (k:=on_ (qn_ (ws_ (wr_ (e_ mv (k:=?_))))))
 refine e_ (cN rfl) (k:=?_)
 refine gk (k:=dw (k:=go ?_))
 refine c0_ rfl (fC) (k:=?_)
 rintro _ _ ⟨bw,rfl,rfl⟩
 refine e_ asn (k:=on_ (qn_ (ws_ (wr_ (e_ mv (k:=e_ fla (k:=e_ ldv (k:=e_ lnn (k:=?_)))))))))
 refine e_ ((ae)) (k:=?_)
 refine d2_ rfl (eC fs.length (a8) (aj)) (k:=gk (k:=wl_ (Nat×List Nat) (fun y=> y.1≤fs.length∧y.2=uv fs.length++gC (fs.take y.1)∧y.2.length≤100+100*y.1) (fun y=> [(5, .pointer (some ⟨bw,0,none⟩)),(22,s.val),(23, .int .i64 ((fs.length:Nat):Int)),(24, .int .i64 ((y.1:Nat):Int))]) (fun y=> Wr bw y.2::H) (fun y=> fs.length - y.1) ((0,uv fs.length)) (h0:=?_) (k:=?_)))
 ·try dsimp only
  have:=dc (n:=fs.length) (a8)
  exact⟨Yl _,cC,a8⟩
 rintro⟨i,zs⟩ ⟨hi,hI,hzl⟩
 try dsimp only at*
 refine gk (k:=wi_ (k:=fun h1=>?_) (m:=fun h1=>?_))
 ·obtain⟨f,hfi⟩:∃f,fs[i]? =some f:=⟨_,Yi (a8)⟩
  obtain⟨hfn,hk1,hk2⟩:=hfl f (Yj hfi)
  have hul:=dc (n:=f.name.size) (a8)
  have hbl:=cJ f.name
  have hkB:=Me f (a8)
  have o0:f.kind.toNat<256:=a8
  have o1:f.kind.toNat ||| 4<256:=Nat.or_lt_two_pow (n:=8) o0 (ag)
  have o2:f.kind.toNat ||| 4 ||| 8<256:=Nat.or_lt_two_pow (n:=8) o1 (ag)
  have o3:f.kind.toNat ||| 8<256:=Nat.or_lt_two_pow (n:=8) o0 (ag)
  have hel:(eM f).length≤100:=cD
  refine gk (k:=alc (k:=fun b2=>?_))
  refine go ?_
  refine d2_ rfl (Dh f.name (a8) (a8)) (k:=on_ (qn_ (ws_ (wr_ (e_ fla (k:=e_ ldv (k:=?_)))))))
  refine e_ (cS 256 rfl rfl rfl f.kind.toNat (a8) (a8)) (k:=?_)
  refine gk (k:=wi_ (k:=fun h2=>?_) (m:=fun h2=>?_))
  ·refine wr_ (e_ mv (k:=?_))
   refine e_ (j0 256 rfl rfl rfl rfl _ 4 rfl rfl (ai) (ai)) (k:=?_)
   refine gk (k:=wi_ (k:=fun h3=>?_) (m:=fun h3=>?_))
   ·refine wr_ (e_ mv (k:=?_))
    refine e_ (j0 256 rfl rfl rfl rfl _ 8 rfl rfl (ai) (ai)) (k:=?_)
    refine gk (k:=wi_ (k:=fun h4=>?_) (m:=fun h4=>?_))
    ·refine wr_ (e_ mv (k:=?_))
     refine e_ (j0 256 rfl rfl rfl rfl _ 16 rfl rfl (ai) (ai)) (k:=?_)
     refine e_ asn (k:=on_ (qn_ (wr_ (?_))))
     simp only[*,Bool.false_eq_true,↓reduceIte]at hkB
     rw[hkB]
     refine go ?_
     refine d2_ rfl (nE (kB f) (ah)) (k:=go ?_)
     refine ln_ ((i+1,zs++eM f)) (h4:=?_) (k:=?_)
     ·try dsimp only
      rw[show zs++eM f=zs++(uv f.name.size++cF f.name)++ [kB f]from bf]
      exact hsb
     try dsimp only
     refine⟨a8,?_,ah⟩
     rw[hI,cP hfi,eh,Yf]
    refine wk_ (qn_ (wr_ (?_)))
    simp only[*,Bool.false_eq_true,↓reduceIte]at hkB
    rw[hkB]
    refine go ?_
    refine d2_ rfl (nE (kB f) (ah)) (k:=go ?_)
    refine ln_ ((i+1,zs++eM f)) (h4:=?_) (k:=?_)
    ·try dsimp only
     rw[show zs++eM f=zs++(uv f.name.size++cF f.name)++ [kB f]from bf]
     exact hsb
    try dsimp only
    refine⟨a8,?_,ah⟩
    rw[hI,cP hfi,eh,Yf]
   refine gk (k:=wi_ (k:=fun h5=>?_) (m:=fun h5=>?_))
   ·refine wr_ (e_ mv (k:=?_))
    refine e_ (j0 256 rfl rfl rfl rfl _ 16 rfl rfl (ai) (ai)) (k:=?_)
    refine e_ asn (k:=on_ (qn_ (wr_ (?_))))
    simp only[*,Bool.false_eq_true,↓reduceIte]at hkB
    rw[hkB]
    refine go ?_
    refine d2_ rfl (nE (kB f) (ah)) (k:=go ?_)
    refine ln_ ((i+1,zs++eM f)) (h4:=?_) (k:=?_)
    ·try dsimp only
     rw[show zs++eM f=zs++(uv f.name.size++cF f.name)++ [kB f]from bf]
     exact hsb
    try dsimp only
    refine⟨a8,?_,ah⟩
    rw[hI,cP hfi,eh,Yf]
   refine wk_ (qn_ (wr_ (?_)))
   simp only[*,Bool.false_eq_true,↓reduceIte]at hkB
   rw[hkB]
   refine go ?_
   refine d2_ rfl (nE (kB f) (ah)) (k:=go ?_)
   refine ln_ ((i+1,zs++eM f)) (h4:=?_) (k:=?_)
   ·try dsimp only
    rw[show zs++eM f=zs++(uv f.name.size++cF f.name)++ [kB f]from bf]
    exact hsb
   try dsimp only
   refine⟨a8,?_,ah⟩
   rw[hI,cP hfi,eh,Yf]
  refine gk (k:=wi_ (k:=fun h6=>?_) (m:=fun h6=>?_))
  ·refine wr_ (e_ mv (k:=?_))
   refine e_ (j0 256 rfl rfl rfl rfl _ 8 rfl rfl (ai) (ai)) (k:=?_)
   refine gk (k:=wi_ (k:=fun h7=>?_) (m:=fun h7=>?_))
   ·refine wr_ (e_ mv (k:=?_))
    refine e_ (j0 256 rfl rfl rfl rfl _ 16 rfl rfl (ai) (ai)) (k:=?_)
    refine e_ asn (k:=on_ (qn_ (wr_ (?_))))
    simp only[*,Bool.false_eq_true,↓reduceIte]at hkB
    rw[hkB]
    refine go ?_
    refine d2_ rfl (nE (kB f) (ah)) (k:=go ?_)
    refine ln_ ((i+1,zs++eM f)) (h4:=?_) (k:=?_)
    ·try dsimp only
     rw[show zs++eM f=zs++(uv f.name.size++cF f.name)++ [kB f]from bf]
     exact hsb
    try dsimp only
    refine⟨a8,?_,ah⟩
    rw[hI,cP hfi,eh,Yf]
   refine wk_ (qn_ (wr_ (?_)))
   simp only[*,Bool.false_eq_true,↓reduceIte]at hkB
   rw[hkB]
   refine go ?_
   refine d2_ rfl (nE (kB f) (ah)) (k:=go ?_)
   refine ln_ ((i+1,zs++eM f)) (h4:=?_) (k:=?_)
   ·try dsimp only
    rw[show zs++eM f=zs++(uv f.name.size++cF f.name)++ [kB f]from bf]
    exact hsb
   try dsimp only
   refine⟨a8,?_,ah⟩
   rw[hI,cP hfi,eh,Yf]
  refine gk (k:=wi_ (k:=fun h8=>?_) (m:=fun h8=>?_))
  ·refine wr_ (e_ mv (k:=?_))
   refine e_ (j0 256 rfl rfl rfl rfl _ 16 rfl rfl (ai) (ai)) (k:=?_)
   refine e_ asn (k:=on_ (qn_ (wr_ (?_))))
   simp only[*,Bool.false_eq_true,↓reduceIte]at hkB
   rw[hkB]
   refine go ?_
   refine d2_ rfl (nE (kB f) (ah)) (k:=go ?_)
   refine ln_ ((i+1,zs++eM f)) (h4:=?_) (k:=?_)
   ·try dsimp only
    rw[show zs++eM f=zs++(uv f.name.size++cF f.name)++ [kB f]from bf]
    exact hsb
   try dsimp only
   refine⟨a8,?_,ah⟩
   rw[hI,cP hfi,eh,Yf]
  refine wk_ (qn_ (wr_ (?_)))
  simp only[*,Bool.false_eq_true,↓reduceIte]at hkB
  rw[hkB]
  refine go ?_
  refine d2_ rfl (nE (kB f) (ah)) (k:=go ?_)
  refine ln_ ((i+1,zs++eM f)) (h4:=?_) (k:=?_)
  ·try dsimp only
   rw[show zs++eM f=zs++(uv f.name.size++cF f.name)++ [kB f]from bf]
   exact hsb
  try dsimp only
  refine⟨a8,?_,ah⟩
  rw[hI,cP hfi,eh,Yf]
 obtain rfl:i=fs.length:=a8
 rw[List.take_length]at hI
 have hI':zs=fq fs:=hI
 subst hI'
 refine go ?_
 refine c1_ rfl (iB (a8)) (k:=?_)
 rintro _ _ ⟨s1,rfl,rfl⟩
 refine gk (k:=rt_ Tryz.results35 (k:=?_))
 exact⟨_,hsb, .inr ⟨hc,s1,rfl,rfl⟩⟩
end Go.Sx
