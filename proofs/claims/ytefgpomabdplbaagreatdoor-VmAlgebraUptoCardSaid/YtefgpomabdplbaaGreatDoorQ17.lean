import Derived.Test.YtefgpomabdplbaaGreatDoorQ16
set_option linter.unusedVariables false
set_option linter.unusedSimpArgs false
set_option linter.unusedSectionVars false
set_option linter.unnecessarySimpa false
set_option maxHeartbeats 0
namespace Go.Sx
open Go Go.Proofs
set_option maxRecDepth 100000
def j6:Nat→List Nat→Option (List (Nat×List Nat))
 | 0,l=> if l.length=0 then some []else none
 |n+1,l=>
  match kx l with
  |none=> none
  |some (f,t)=>
   match j6 n (l.drop (t+4))with
   |none=> none
   |some r=> some ((l.headD 0,(l.take t).drop f)::r)
def jQ (kind:Nat) (l:List Nat):Option (List (Nat×List Nat)):=
 if l.length<10 then none else
 if kg (l.drop (l.length - 4))=tq (l.take (l.length - 4))then
  if kind=0∨l.take 4≠ [99,110,99,100]∨l[4]? ≠some kind then none else
  match gP 0 (((l.take (l.length - 4)).drop 5).take (min ((l.take (l.length - 4)).drop 5).length 10))with
  | .error _=> none
  | .ok (n,m)=> j6 n (((l.take (l.length - 4)).drop 5).drop m)
 else none
def GV (bl:List (Nat×List Nat)):Option (List (Nat×List Nat))→Option (List (Nat×List Nat))
 |none=> none
 |some r=> some (bl++r)
theorem Dp {l:List Nat}{x:Nat}(h:l[0]? =some x):l.headD 0=x:=by
 cases l with
 |nil=> cases h
 |cons a l=> simp at h;exact h
theorem oH.snoc {F:cG}{l:List (Nat×SV)}{bl:List (Nat×List Nat)}(h:oH F l bl) (x:Nat) (s:SV) (body:List Nat):oH (Row s eB body::F) (l++ [(x,s)]) (bl++ [(x,body)]):=by
 obtain⟨h1,h2⟩:=h
 refine⟨by simp[h1],fun i p q hp hq=> ?_⟩
 by_cases hi:i<l.length
 ·rw[Yv hi]at hp
  rw[Yv (aa)]at hq
  obtain⟨h3,h4⟩:=h2 i p q hp hq
  exact⟨h3,inferInstance⟩
 ·rw[Yu (aa)]at hp hq
  have hz:i - l.length=0:=by
   have:=(Yk.1 hp).1
   simp at this;omega
  rw[hz]at hp
  rw[←h1,hz]at hq
  simp at hp hq
  subst hp;subst hq
  exact⟨rfl,inferInstance⟩
theorem oH.nil {F:cG}:oH F [] []:=⟨rfl,fun i p q h=> aG⟩
def Om (p:Nat×SV) (q:Nat×List Nat):Hp:=Row p.2 eB q.2
theorem H7 {G:cK}{H:cG}{s:SV}{xs:List Nat} [hg:Glb G H] [Tab H 27 lg] [Tab H 25 jP] [hs:Sl H s eB xs] (kind:Nat) (hk:kind<256) (hn:xs.length≤1000000000) (hb:∀x∈xs,x<256):SC G Tryz.prog 108 [.int .u8 ((kind:Nat):Int),s.val] H (fun v H'=>
 (jQ kind xs=none∧H'=H∧∃e,v= .tuple #[.slice none 0 0,G.err e])∨(∃bl l F,∃s':SV,jQ kind xs=some bl∧oH F l bl∧F=(List.zipWith Om l bl).reverse∧v= .tuple #[s'.val, .nilIface]∧H'=Row s' eK l::fB F::H)):=by
 refine sWk Tryz.func108 Tryz.ntmps108 ?_
 refine go ?_
 refine wi_ (k:=fun h1=>?_) (m:=fun h1=>?_)
 ·have e:jQ kind xs=none:=by rw[jQ,if_pos (aa)]
  refine go ?_
  refine cX cI (as_ 0 (q:=ldv) (k:=as_ 1 (q:=asn) (k:=as_ 2 (q:=asn) (k:=az_ (k:=gk (k:=rt_ Tryz.results108 (k:=?_)))))))
  exact⟨_,hsb, .inl ⟨e,rfl,_,rfl⟩⟩
 have e0:jQ kind xs=if kg (xs.drop (xs.length - 4))=tq (xs.take (xs.length - 4))then if kind=0∨xs.take 4≠ [99,110,99,100]∨xs[4]? ≠some kind then none else
  match gP 0 (((xs.take (xs.length - 4)).drop 5).take (min ((xs.take (xs.length - 4)).drop 5).length 10))with
  | .error _=> none
  | .ok (n,m)=> j6 n (((xs.take (xs.length - 4)).drop 5).drop m)
  else none:=by rw[jQ,if_neg (aa)]
 obtain⟨x4,hx4⟩:∃x,xs[4]? =some x:=⟨_,Yi (aa)⟩
 have hx4b:=hb x4 (Yj hx4)
 refine wk_ (qn_ (ws_ (wr_ (e_ mv (k:=e_ lnn (k:=?_))))))
 refine e_ (H8 rfl rfl (aa)) (k:=?_)
 refine go ?_
 refine cX cI (?_)
 have hc1:Sl H (s.cut 1 (xs.length - 4) xs.length) eB ((xs.take xs.length).drop (xs.length - 4)):=Sl.cut (e:=eB) inferInstance (aa) (aa)
 rw[List.take_length]at hc1
 have hc2:Sl H (s.cut 1 0 (xs.length - 4)) eB ((xs.take (xs.length - 4)).drop 0):=Sl.cut (e:=eB) inferInstance (aa) (aa)
 rw[List.drop_zero]at hc2
 refine as_ 0 (q:=mv) (k:=as_ 1 (q:=mv) (k:=?_))
 refine cE 2 rfl rfl (a8) rfl (dz (eL rfl (bQ) (xs.length - 4) xs.length ⟨_,_,rfl,aa⟩ rfl (aa) (aa))) (?_)
 refine cE 3 rfl rfl (a8) rfl (gQ (vs:= [_]) rfl (Ec (aK) (fun y hy=> hb y (Yp hy)))) (?_)
 refine as_ 4 (q:=mv) (k:=as_ 5 (q:=mv) (k:=?_))
 refine cE 6 rfl rfl (a8) rfl (dz (eL rfl (bQ) 0 (xs.length - 4) rfl ⟨_,_,rfl,aa⟩ (aa) (aa))) (?_)
 refine cE 7 rfl rfl (a8) rfl (gQ (vs:= [_]) rfl (Fs (aA) (fun y hy=> hb y (Yq hy)))) (?_)
 refine as_ 8 (q:=ine) (k:=az_ (k:=gk (k:=wi_ (k:=fun h2=>?_) (m:=fun h2=>?_))))
 ·rw[if_neg (aa)]at e0
  refine go ?_
  refine cX cI (as_ 0 (q:=ldv) (k:=as_ 1 (q:=asn) (k:=as_ 2 (q:=asn) (k:=az_ (k:=gk (k:=rt_ Tryz.results108 (k:=?_)))))))
  exact⟨_,hsb, .inl ⟨e0,rfl,_,rfl⟩⟩
 rw[if_pos (aa)]at e0
 refine wk_ (qn_ (ws_ (ws_ (wr_ (?_)))))
 have hc3:Sl H (s.cut 1 0 4) eB ((xs.take 4).drop 0):=Sl.cut (e:=eB) inferInstance (aa) (aa)
 rw[List.drop_zero]at hc3
 refine e_ mv (k:=e_ ieq (k:=sp_ (mv) (k:=fun h3=>?_) (m:=fun h3=>?_)))
 ·refine go ?_
  refine ift (k:=go ?_)
  refine cX cI (as_ 0 (q:=ldv) (k:=as_ 1 (q:=asn) (k:=as_ 2 (q:=asn) (k:=az_ (k:=gk (k:=rt_ Tryz.results108 (k:=?_)))))))
  refine⟨_,hsb, .inl ⟨?_,rfl,_,rfl⟩⟩
  rw[e0,if_pos]
  first
   |exact .inl (aa)
   |exact .inr (.inl (aH))
   |exact .inr (.inr (bX))
 refine eg_ mv (k:=?_)
 refine eg_ (eL rfl (bQ) 0 4 rfl ⟨_,_,rfl,rfl⟩ (aa) (aa)) (k:=?_)
 refine eg_ (eN rfl) (k:=?_)
 refine eg_ (yQ rfl rfl (fun y hy=> hb y (Yq hy)) (ys:= [99,110,99,100]) (ay)) (k:=?_)
 refine e_ pkf (k:=sp_ (mv) (k:=fun h4=>?_) (m:=fun h4=>?_))
 ·refine gk (k:=ift (k:=go ?_))
  refine cX cI (as_ 0 (q:=ldv) (k:=as_ 1 (q:=asn) (k:=as_ 2 (q:=asn) (k:=az_ (k:=gk (k:=rt_ Tryz.results108 (k:=?_)))))))
  refine⟨_,hsb, .inl ⟨?_,rfl,_,rfl⟩⟩
  rw[e0,if_pos]
  first
   |exact .inl (aa)
   |exact .inr (.inl (aH))
   |exact .inr (.inr (bX))
 refine eg_ mv (k:=?_)
 refine eg_ (di rfl rfl 4 rfl (aa)) (k:=?_)
 refine eg_ (fX rfl (bQ) (bQ) x4 hx4) (k:=?_)
 refine gk (k:=wi_ (k:=fun h5=>?_) (m:=fun h5=>?_))
 ·refine go ?_
  refine cX cI (as_ 0 (q:=ldv) (k:=as_ 1 (q:=asn) (k:=as_ 2 (q:=asn) (k:=az_ (k:=gk (k:=rt_ Tryz.results108 (k:=?_)))))))
  refine⟨_,hsb, .inl ⟨?_,rfl,_,rfl⟩⟩
  rw[e0,if_pos]
  first
   |exact .inl (aa)
   |exact .inr (.inl (aH))
   |exact .inr (.inr (bX))
 refine wk_ (qn_ (ws_ (wr_ (?_))))
 rw[if_neg (by
  rintro(h|h|h)
  ·omega
  ·exact h (aH)
  ·exact h (by rw[hx4];congr 1;omega))]at e0
 refine go ?_
 refine kW H rfl (5) (xs.length - 4) ⟨_,_,rfl,(aN)⟩ ⟨_,_,rfl,(aN)⟩ (aa) (aP) rfl (fun s1 i1=>?_)
 obtain⟨rs,hrs⟩:∃rs,rs=(xs.take (xs.length - 4)).drop 5:=⟨_,rfl⟩
 rw[←hrs]at i1 e0
 have hbr:∀y∈rs,y<256:=fun y hy=> hb y (Yq (Yp (hrs ▸ hy)))
 have hlr:rs.length=xs.length - 9:=by rw[hrs,Yo,Yg];omega
 refine e_ asn (k:=on_ (qn_ (ws_ (wr_ (e_ mv (k:=e_ mv (k:=e_ lnn (k:=?_))))))))
 refine e_ (mN rfl rfl) (k:=?_)
 refine kW H rfl (0) (min rs.length 10) rfl ⟨_,_,rfl,(aN)⟩ (aa) (aP) rfl (fun s2 i2=>?_)
 rw[List.drop_zero]at i2
 refine c1_ rfl (iS (aA)) (k:=?_)
 rintro _ _ ⟨b1,rfl,rfl⟩
 refine go ?_
 refine c1_ rfl (lN (Yl _) (aA) (fun y hy=> hbr y (Yq hy))) (k:=?_)
 rintro v1 H1 hK
 rw[List.drop_zero]at hK
 rcases hK with⟨e,he,rfl,rfl⟩|⟨n,m,he,rfl,rfl⟩
 ·rw[he]at e0
  refine e_ mv (k:=e_ exr (k:=e_ exr (k:=e_ asn (k:=e_ asn (k:=on_ (qn_ (ws_ (ws_ (wr_ (e_ mv (k:=?_)))))))))))
  refine e_ (cZ rfl) (k:=?_)
  refine gk (k:=ift (k:=gk (k:=rt_ Tryz.results108 (k:=?_))))
  exact⟨_,hsb, .inl ⟨e0,rfl,_,rfl⟩⟩
 obtain⟨p1,p2,p3,p4,p5,p6⟩:=j5 _ 0 n m (fun y hy=> hbr y (Yq hy)) (aa) he
 rw[Yg]at p4
 rw[he]at e0
 replace e0:jQ kind xs=j6 n (rs.drop m):=e0
 refine e_ mv (k:=e_ exr (k:=e_ exr (k:=e_ asn (k:=e_ asn (k:=on_ (qn_ (ws_ (ws_ (wr_ (e_ mv (k:=?_)))))))))))
 refine e_ (cM rfl) (k:=?_)
 refine gk (k:=eg (k:=go ?_))
 refine d1_ rfl (tl) (k:=?_)
 refine kW H rfl (m) (rs.length) ⟨_,_,rfl,(aN)⟩ rfl (aa) (aP) rfl (fun s3 i3=>?_)
 rw[List.take_length]at i3
 refine gk (k:=wl_ (SV×SV×Nat×List Nat×List (Nat×SV)×List (Nat×List Nat)×cG) (fun y=> Sl H y.2.1 eB y.2.2.2.1∧(∀z∈y.2.2.2.1,z<256)∧oH y.2.2.2.2.2.2 y.2.2.2.2.1 y.2.2.2.2.2.1∧y.2.2.1<18446744073709551616∧y.2.2.2.2.1.length+y.2.2.2.1.length≤1000000000∧jQ kind xs=GV y.2.2.2.2.2.1 (j6 y.2.2.1 y.2.2.2.1)∧y.2.2.2.2.2.2=(List.zipWith Om y.2.2.2.2.1 y.2.2.2.2.2.1).reverse) (fun y=> [(7,y.2.1.val),(9, .int .u64 ((y.2.2.1:Nat):Int)),(11,y.1.val)]) (fun y=> Row y.1 eK y.2.2.2.2.1::fB y.2.2.2.2.2.2::H) (fun y=> y.2.2.1) ((SV.nil,s3,n,rs.drop m, [], [], [])) (h0:=?_) (k:=?_))
 ·try dsimp only
  refine⟨i3,fun z hz=> hbr z (Yp hz),oH.nil,aa,by rw[Yo];simp only[Yc];omega,?_,rfl⟩
  rw[e0]
  cases j6 n (rs.drop m)with
  |none=> rfl
  |some r=> rfl
 rintro⟨sb,sr,n',r,l,bl,F⟩ ⟨hsr,hbz,hB,hn',hlen,hI,hF⟩
 try dsimp only at*
 refine gk (k:=wi_ (k:=fun h6=>?_) (m:=fun h6=>?_))
 ·obtain⟨d,rfl⟩:∃d,n'=d+1:=⟨n' - 1,aa⟩
  rw[j6]at hI
  refine go ?_
  refine c1_ rfl (JZ (xs:=r) (aa) hbz) (k:=?_)
  rintro v1 H1 hK
  rcases hK with⟨he2,rfl,e,rfl⟩|⟨f,q,x,s5,he2,hft,htl,hx,rfl,rfl⟩
  all_goals rw[he2]at hI
  all_goals simp only[]at hI
  ·refine gk (k:=alc (k:=fun b1=>?_))
   refine sto (k:=e_ asn (k:=e_ asn (k:=on_ (qn_ (ws_ (ws_ (wr_ (e_ mv (k:=?_)))))))))
   refine e_ (cZ rfl) (k:=?_)
   refine gk (k:=ift (k:=go ?_))
   refine gk (k:=rt_ Tryz.results108 (k:=?_))
   exact⟨_,hsb, .inl ⟨hI,rfl,_,rfl⟩⟩
  refine gk (k:=alc (k:=fun b2=>?_))
  refine sto (k:=e_ asn (k:=e_ asn (k:=on_ (qn_ (ws_ (ws_ (wr_ (e_ mv (k:=?_)))))))))
  refine e_ (cM rfl) (k:=?_)
  refine gk (k:=eg (k:=gk (k:=gz eK (k:=fun s1=>?_))))
  refine app (k:=fun s2=>?_)
  refine go ?_
  refine kW H rfl (q+4) (r.length) ⟨_,_,rfl,(aN)⟩ rfl (aa) (aP) rfl (fun s4 i4=>?_)
  rw[List.take_length]at i4
  refine e_ asn (k:=on_ (bn_ (qn_ (wr_ (e_ mv (k:=?_))))))
  refine e_ (wQ 18446744073709551616 rfl rfl rfl rfl _ 1 rfl rfl (aa) (aa)) (k:=?_)
  refine go ?_
  refine ln_ ((s2,s4,d,r.drop (q+4),l++ [(x,s5)],bl++ [(x,(r.take q).drop f)],Row s5 eB ((r.take q).drop f)::F)) (k:=?_)
  try dsimp only
  refine⟨i4,fun z hz=> hbz z (Yp hz),hB.snoc x s5 _,aa,by rw[Ya,Yo];simp only[Yb,Yc];omega,?_,by rw[List.zipWith_append hB.1,hF,List.reverse_append];all_goals rfl⟩
  rw[hI,Dp hx]
  cases j6 d (r.drop (q+4))with
  |none=> rfl
  |some r'=> simp[GV]
 obtain rfl:n'=0:=aa
 rw[j6]at hI
 refine gk (k:=wi_ (k:=fun h7=>?_) (m:=fun h7=>?_))
 ·rw[if_neg (aa)]at hI
  refine go ?_
  refine cX cI (as_ 0 (q:=ldv) (k:=as_ 1 (q:=asn) (k:=as_ 2 (q:=asn) (k:=az_ (k:=gk (k:=rt_ Tryz.results108 (k:=?_)))))))
  exact⟨_,hsb, .inl ⟨hI,rfl,_,rfl⟩⟩
 rw[if_pos (aa)]at hI
 refine gk (k:=rt_ Tryz.results108 (k:=?_))
 exact⟨_,hsb, .inr ⟨bl,l,F,sb,by rw[hI];simp[GV],hB,hF,rfl,rfl⟩⟩
theorem JX {G:cK}{H:cG}{s:SV}{xs:List Nat} [hg:Glb G H] [Tab H 27 lg] [Tab H 25 jP] [hs:Sl H s eB xs] (kind:Nat) (hk:kind<256) (hn:xs.length≤1000000000) (hb:∀x∈xs,x<256):SC G Tryz.prog 108 [.int .u8 ((kind:Nat):Int),s.val] H (fun v H'=>
 (jQ kind xs=none∧H'=H∧∃e,v= .tuple #[.slice none 0 0,G.err e])∨(∃bl l F,∃s':SV,jQ kind xs=some bl∧oH F l bl∧v= .tuple #[s'.val, .nilIface]∧H'=Row s' eK l::fB F::H)):=
 (H7 kind hk hn hb).mono fun v H' h=> h.imp id fun⟨bl,l,F,s',h1,h2,_,h3,h4⟩=> ⟨bl,l,F,s',h1,h2,h3,h4⟩
structure FV where
 name:ByteArray
 kind:Int
 fold:Bool
 stop:Bool
 stem:Bool
def eF:Enc FV:=⟨fun p=> [.string p.name, .int .i64 p.kind, .bool p.fold, .bool p.stop, .bool p.stem],5,true,fun _=> rfl,fun p v h=> by simp at h;rcases h with rfl|rfl|rfl|rfl|rfl <;> rfl,ag,fun h=> aG,ag⟩
instance {p:FV}:jG eF p (.agg [.string p.name, .int .i64 p.kind, .bool p.fold, .bool p.stop, .bool p.stem].toArray):=⟨rfl⟩
instance {n:ByteArray}{k:Int}{a b c:Bool}:fK eF (.agg [.string n, .int .i64 k, .bool a, .bool b, .bool c].toArray) ⟨n,k,a,b,c⟩:=⟨rfl⟩
def kL (i c:Nat):Bool:=decide ((97≤c∧c≤122)∨(i≠0∧(c=95∨(48≤c∧c≤57))))
def oR:Nat→List Nat→Bool
 |_, []=> true
 |i,c::r=> kL i c && oR (i+1) r
def gx (l:List Nat):Bool:=decide (1≤l.length∧l.length≤32) && oR 0 l
def fE (f:FV):Bool:=if f.kind=1 then true else if f.kind=2∨f.kind=3 then !f.fold && !f.stop && !f.stem else false
def qp:List (List Nat)→List FV→Bool
 |_, []=> true
 |seen,f::r=> !decide (cF f.name∈seen) && (gx (cF f.name) && (fE f && qp (seen++ [cF f.name]) r))
def fI (fs:List FV):Bool:=decide (1≤fs.length∧fs.length≤16) && qp [] fs
theorem GS {G:cK}{H:cG}(s:ByteArray) (hn:s.size≤1000000000000):SC G Tryz.prog 137 [.string s] H (fun v H'=> v= .bool (gx (cF s))∧H'=H):=by
 have hs:=cL s
 refine sWk Tryz.func137 Tryz.ntmps137 ?_
 refine ws_ (wr_ (e_ asn (k:=on_ (qn_ (ws_ (ws_ (wr_ (e_ mv (k:=e_ nT (k:=e_ ilt (k:=sp_ (mv) (k:=fun h1=>?_) (m:=fun h1=>?_))))))))))))
 ·refine gk (k:=ift (k:=go ?_))
  refine rt_ Tryz.results137 (k:=?_)
  have e:gx (cF s)=false:=bm
  exact⟨_,cJ.refl,by rw[e];all_goals rfl,rfl⟩
 refine gk (k:=wi_ (k:=fun h2=>?_) (m:=fun h2=>?_))
 ·refine gk (k:=rt_ Tryz.results137 (k:=?_))
  have e:gx (cF s)=false:=bm
  exact⟨_,cJ.refl,by rw[e];all_goals rfl,rfl⟩
 have e:gx (cF s)=oR 0 (cF s):=by unfold gx;rw[Ys (aa)];all_goals rfl
 refine gk (k:=wl_ (Nat) (fun i=> i≤s.size∧gx (cF s)=oR i ((cF s).drop i)) (fun i=> [(0, .string s),(15, .int .i64 ((s.size:Nat):Int)),(16, .int .i64 ((i:Nat):Int))]) (fun _=> H) (fun i=> s.size - i) (0) (h0:=?_) (k:=?_))
 ·try dsimp only
  exact⟨Yl _,by rw[e,List.drop_zero]⟩
 rintro i ⟨hi,hI⟩
 try dsimp only at*
 refine gk (k:=wi_ (k:=fun h3=>?_) (m:=fun h3=>?_))
 ·obtain⟨c,hc⟩:∃c,(cF s)[i]? =some c:=⟨_,Yi (aa)⟩
  rw[dF hc,oR]at hI
  refine wk_ (qn_ (ws_ (wb_ (ws_ (wr_ (e_ mv (k:=e_ asn (k:=on_ (qn_ (ws_ (wr_ (e_ mv (k:=e_ mv (k:=?_))))))))))))))
  refine e_ (mP rfl rfl _ rfl _ (by first|assumption|rfl|exact Yi (aa))) (k:=?_)
  refine e_ asn (k:=on_ (qn_ (ws_ (wr_ (e_ mv (k:=e_ ige (k:=sp_ (mv) (k:=fun h4=>?_) (m:=fun h4=>?_))))))))
  ·refine eg_ mv (k:=eg_ ile (k:=e_ pkt (k:=e_ asn (k:=on_ (qn_ (ws_ (wr_ (e_ mv (k:=e_ k8 (k:=sp_ (mv) (k:=fun h5=>?_) (m:=fun h5=>?_)))))))))))
   ·refine eg_ mv (k:=eg_ ieq (k:=pN (mv) (k:=fun h6=>?_) (m:=fun h6=>?_)))
    ·refine go ?_
     refine ift (k:=gk (k:=rt_ Tryz.results137 (k:=?_)))
     exact⟨_,cJ.refl,ao,rfl⟩
    refine eg_ mv (k:=eg_ ine (k:=pN (mv) (k:=fun h7=>?_) (m:=fun h7=>?_)))
    ·refine eg_ mv (k:=eg_ ilt (k:=pN (mv) (k:=fun h8=>?_) (m:=fun h8=>?_)))
     ·refine gk (k:=ift (k:=go ?_))
      refine gk (k:=rt_ Tryz.results137 (k:=?_))
      exact⟨_,cJ.refl,ao,rfl⟩
     refine gk (k:=wi_ (k:=fun h9=>?_) (m:=fun h9=>?_))
     ·refine gk (k:=rt_ Tryz.results137 (k:=?_))
      exact⟨_,cJ.refl,ao,rfl⟩
     refine go ?_
     refine ln_ (i+1) (k:=?_)
     try dsimp only
     refine⟨aa,?_⟩
     rw[hI,show kL i c=true from Ys (aa),Bool.true_and]
    refine gk (k:=eg (k:=go ?_))
    refine go ?_
    refine ln_ (i+1) (k:=?_)
    try dsimp only
    refine⟨aa,?_⟩
    rw[hI,show kL i c=true from Ys (aa),Bool.true_and]
   refine go ?_
   refine gk (k:=eg (k:=go ?_))
   refine ln_ (i+1) (k:=?_)
   try dsimp only
   refine⟨aa,?_⟩
   rw[hI,show kL i c=true from Ys (aa),Bool.true_and]
  refine of_ (k:=of_ (k:=e_ pkf (k:=e_ asn (k:=on_ (qn_ (ws_ (wr_ (e_ mv (k:=e_ k8 (k:=e_ mv (k:=eg_ mv (k:=eg_ ieq (k:=pN (mv) (k:=fun h10=>?_) (m:=fun h10=>?_))))))))))))))
  ·refine go ?_
   refine ift (k:=gk (k:=rt_ Tryz.results137 (k:=?_)))
   exact⟨_,cJ.refl,ao,rfl⟩
  refine eg_ mv (k:=eg_ ine (k:=pN (mv) (k:=fun h11=>?_) (m:=fun h11=>?_)))
  ·refine eg_ mv (k:=eg_ ilt (k:=pN (mv) (k:=fun h12=>?_) (m:=fun h12=>?_)))
   ·refine gk (k:=ift (k:=go ?_))
    refine gk (k:=rt_ Tryz.results137 (k:=?_))
    exact⟨_,cJ.refl,ao,rfl⟩
   refine gk (k:=wi_ (k:=fun h13=>?_) (m:=fun h13=>?_))
   ·refine gk (k:=rt_ Tryz.results137 (k:=?_))
    exact⟨_,cJ.refl,ao,rfl⟩
   refine go ?_
   refine ln_ (i+1) (k:=?_)
   try dsimp only
   refine⟨aa,?_⟩
   rw[hI,show kL i c=true from Ys (aa),Bool.true_and]
  refine gk (k:=eg (k:=go ?_))
  refine go ?_
  refine ln_ (i+1) (k:=?_)
  try dsimp only
  refine⟨aa,?_⟩
  rw[hI,show kL i c=true from Ys (aa),Bool.true_and]
 obtain rfl:i=s.size:=aa
 rw[List.drop_of_length_le (aa),oR]at hI
 refine gk (k:=rt_ Tryz.results137 (k:=?_))
 exact⟨_,cJ.refl,by rw[hI];all_goals rfl,rfl⟩
theorem GU {G:cK}{H:cG}(f:FV):SC G Tryz.prog 138 [.agg [.string f.name, .int .i64 f.kind, .bool f.fold, .bool f.stop, .bool f.stem].toArray] H (fun v H'=> v= .bool (fE f)∧H'=H):=by
 refine sWk Tryz.func138 Tryz.ntmps138 ?_
 refine gk (k:=bxx (k:=fun b1=>?_))
 refine go ?_
 refine gk (k:=wi_ (k:=fun h1=>?_) (m:=fun h1=>?_))
 ·refine gk (k:=rt_ Tryz.results138 (k:=?_))
  exact⟨_,hsb,by unfold fE;rw[if_pos (aH)];all_goals rfl,rfl⟩
 refine gk (k:=wi_ (k:=fun h2=>?_) (m:=fun h2=>?_))
 ·refine gk (k:=wi_ (k:=fun h3=>?_) (m:=fun h3=>?_))
  ·refine ws_ (wr_ (e_ fla (k:=e_ ldv (k:=e_ k8 (k:=sp_ (mv) (k:=fun h4=>?_) (m:=fun h4=>?_))))))
   ·refine eg_ fla (k:=eg_ ldv (k:=eg_ k8 (k:=e_ pkt (k:=sp_ (mv) (k:=fun h5=>?_) (m:=fun h5=>?_)))))
    ·refine gk (k:=rt_ Tryz.results138 (k:=?_))
     exact⟨_,hsb,aC,rfl⟩
    refine gk (k:=rt_ Tryz.results138 (k:=?_))
    exact⟨_,hsb,aC,rfl⟩
   refine go ?_
   refine gk (k:=rt_ Tryz.results138 (k:=?_))
   exact⟨_,hsb,aC,rfl⟩
  refine gk (k:=rt_ Tryz.results138 (k:=?_))
  exact⟨_,hsb,by unfold fE;rw[if_neg (aa),if_neg (aa)];all_goals rfl,rfl⟩
 refine gk (k:=wi_ (k:=fun h6=>?_) (m:=fun h6=>?_))
 ·refine ws_ (wr_ (e_ fla (k:=e_ ldv (k:=e_ k8 (k:=sp_ (mv) (k:=fun h7=>?_) (m:=fun h7=>?_))))))
  ·refine eg_ fla (k:=eg_ ldv (k:=eg_ k8 (k:=e_ pkt (k:=sp_ (mv) (k:=fun h8=>?_) (m:=fun h8=>?_)))))
   ·refine gk (k:=rt_ Tryz.results138 (k:=?_))
    exact⟨_,hsb,aC,rfl⟩
   refine gk (k:=rt_ Tryz.results138 (k:=?_))
   exact⟨_,hsb,aC,rfl⟩
  refine go ?_
  refine gk (k:=rt_ Tryz.results138 (k:=?_))
  exact⟨_,hsb,aC,rfl⟩
 refine gk (k:=rt_ Tryz.results138 (k:=?_))
 exact⟨_,hsb,by unfold fE;rw[if_neg (aa),if_neg (aa)];all_goals rfl,rfl⟩
def nm (f:FV):List Nat:=cF f.name
theorem wq {G:cK}{H:cG}{s:SV}{fs:List FV} [hg:Glb G H] [hs:Sl H s eF fs] (hn:fs.length≤1000000000) (hf:∀f∈fs,f.name.size≤1000000000000):SC G Tryz.prog 104 [.agg [s.val].toArray] H (fun v H'=> H'=H∧((fI fs=false∧v=G.err 0)∨(fI fs=true∧v= .nilIface))):=by
 refine sWk Tryz.func104 Tryz.ntmps104 ?_
 refine gk (k:=bxx (k:=fun b1=>?_))
 refine e_ asn (k:=on_ (qn_ (ws_ (ws_ (wr_ (e_ fla (k:=e_ ldv (k:=e_ lnn (k:=e_ ilt (k:=sp_ (mv) (k:=fun h1=>?_) (m:=fun h1=>?_)))))))))))
 ·refine gk (k:=ift (k:=go ?_))
  refine gk (k:=rt_ Tryz.results104 (k:=?_))
  have e:fI fs=false:=bu
  exact⟨_,hsb,rfl, .inl ⟨e,rfl⟩⟩
 refine gk (k:=wi_ (k:=fun h2=>?_) (m:=fun h2=>?_))
 ·refine gk (k:=rt_ Tryz.results104 (k:=?_))
  have e:fI fs=false:=bu
  exact⟨_,hsb,rfl, .inl ⟨e,rfl⟩⟩
 refine wk_ (qn_ (ws_ (wr_ (?_))))
 have e:fI fs=qp [] fs:=by unfold fI;rw[Ys (aa)];all_goals rfl
 refine go ?_
 refine s_ (A8 rfl) (k:=?_)
 rintro _ _ ⟨m1,rfl,rfl⟩
 refine gk (k:=wl_ (Nat×List (List Nat)) (fun y=> y.1≤fs.length∧fI fs=qp y.2 (fs.drop y.1)) (fun y=> [(1, .pointer (some ⟨b1,0,none⟩)),(3, .map (some m1)),(24,s.val),(25, .int .i64 ((fs.length:Nat):Int)),(26, .int .i64 ((y.1:Nat):Int))]) (fun y=> Mp m1 y.2::H) (fun y=> fs.length - y.1) ((0, [])) (h0:=?_) (k:=?_))
 ·try dsimp only
  exact⟨Yl _,by rw[e,List.drop_zero]⟩
 rintro⟨i,seen⟩ ⟨hi,hI⟩
 try dsimp only at*
 refine gk (k:=wi_ (k:=fun h3=>?_) (m:=fun h3=>?_))
 ·obtain⟨f,hfi⟩:∃f,fs[i]? =some f:=⟨_,Yi (aa)⟩
  have hfn:=hf f (Yj hfi)
  rw[dF hfi,qp]at hI
  refine gk (k:=alc (k:=fun b2=>?_))
  refine go ?_
  refine s_ (CZ rfl rfl) (k:=?_)
  rintro _ _ ⟨⟨lv1,rfl⟩,rfl⟩
  refine e_ mv (k:=e_ exr (k:=e_ exr (k:=e_ asn (k:=e_ asn (k:=on_ (qn_ (ws_ (wr_ (e_ mv (k:=sp_ (mv) (k:=fun h4=>?_) (m:=fun h4=>?_)))))))))))
  ·refine gk (k:=ift (k:=go ?_))
   refine gk (k:=rt_ Tryz.results104 (k:=?_))
   refine⟨_,hsb,rfl, .inl ⟨?_,rfl⟩⟩
   rw[hI];simp_all
  refine go ?_
  refine sg_ (cW (vs:= [_]) rfl (GS f.name hfn)) (k:=?_)
  rintro _ _ ⟨rfl,rfl⟩
  refine eg_ k8 (k:=e_ pkf (k:=sp_ (mv) (k:=fun h5=>?_) (m:=fun h5=>?_)))
  ·refine gk (k:=ift (k:=go ?_))
   refine gk (k:=rt_ Tryz.results104 (k:=?_))
   refine⟨_,hsb,rfl, .inl ⟨?_,rfl⟩⟩
   rw[hI];simp_all
  refine go ?_
  refine sg_ (cW (vs:= [_]) rfl (GU f)) (k:=?_)
  rintro _ _ ⟨rfl,rfl⟩
  refine gk (k:=wi_ (k:=fun h6=>?_) (m:=fun h6=>?_))
  ·refine gk (k:=rt_ Tryz.results104 (k:=?_))
   refine⟨_,hsb,rfl, .inl ⟨?_,rfl⟩⟩
   rw[hI];simp_all
  refine go ?_
  refine s_ (wh rfl rfl rfl (aH)) (k:=?_)
  rintro _ _ ⟨rfl,rfl⟩
  refine go ?_
  refine ln_ ((i+1,seen++ [cF f.name])) (k:=?_)
  try dsimp only
  refine⟨aa,?_⟩
  rw[hI];simp_all
 obtain rfl:i=fs.length:=aa
 rw[List.drop_of_length_le (Nat.le_refl _),qp]at hI
 refine gk (k:=rt_ Tryz.results104 (k:=?_))
 exact⟨_,hsb,rfl, .inr ⟨hI,rfl⟩⟩
def kB (f:FV):Nat:=f.kind.toNat+(if f.fold then 4 else 0)+(if f.stop then 8 else 0)+(if f.stem then 16 else 0)
def iF (f:FV):List Nat:=uv f.name.size++cF f.name++ [kB f]
def o5 (fs:List FV):List Nat:=fs.flatMap iF
def wW (fs:List FV):List Nat:=uv fs.length++o5 fs
theorem gL (l:List FV) (f:FV):o5 (l++ [f])=o5 l++iF f:=by simp[o5]
theorem zm:∀(fs:List FV) (seen:List (List Nat)),qp seen fs=true→∀f∈fs,gx (cF f.name)=true∧fE f=true
 | [],_,_,f,h=> aW
 |a::r,seen,hc,f,h=> by
  simp only[qp,Bool.and_eq_true]at hc
  rcases List.mem_cons.1 h with rfl|h
  ·exact⟨hc.2.1,hc.2.2.1⟩
  ·exact zm r _ hc.2.2.2 f h
theorem Dt {l:List Nat}(h:gx l=true):1≤l.length∧l.length≤32:=by
 simp only[gx,Bool.and_eq_true,decide_eq_true_eq]at h;exact h.1
theorem AS {f:FV}(h:fE f=true):f.kind=1∨(f.kind=2∨f.kind=3)∧f.fold=false∧f.stop=false∧f.stem=false:=by
 unfold fE at h
 split at h
 ·exact .inl (aH)
 ·split at h
  ·simp only[Bool.and_eq_true,Bool.not_eq_true']at h
   exact .inr ⟨aH,h.1.1,h.1.2,h.2⟩
  ·cases h
theorem il {fs:List FV}(h:fI fs=true):(1≤fs.length∧fs.length≤16)∧∀f∈fs,f.name.size≤32∧1≤f.kind∧f.kind≤3:=by
 simp only[fI,Bool.and_eq_true,decide_eq_true_eq]at h
 refine⟨h.1,fun f hf=> ?_⟩
 obtain⟨h1,h2⟩:=zm fs [] h.2 f hf
 have h3:=Dt h1
 rw[cL]at h3
 rcases AS h2 with h4|⟨h4,_⟩ <;> omega
theorem MC:∀(k:Fin 4) (a b c:Bool),(let x:=if a then k.val ||| 4 else k.val;let y:=if b then x ||| 8 else x;if c then y ||| 16 else y)=k.val+(if a then 4 else 0)+(if b then 8 else 0)+(if c then 16 else 0):=ag
theorem Ox (f:FV) (h:f.kind.toNat≤3):(if f.stem then(if f.stop then(if f.fold then f.kind.toNat ||| 4 else f.kind.toNat) ||| 8 else(if f.fold then f.kind.toNat ||| 4 else f.kind.toNat)) ||| 16 else(if f.stop then(if f.fold then f.kind.toNat ||| 4 else f.kind.toNat) ||| 8 else(if f.fold then f.kind.toNat ||| 4 else f.kind.toNat)))=kB f:=
 MC ⟨f.kind.toNat,aa⟩ f.fold f.stop f.stem
theorem Jd {G:cK}{H:cG}{s:SV}{fs:List FV} [hg:Glb G H] [hs:Sl H s eF fs] (hn:fs.length≤1000000000) (hf:∀f∈fs,f.name.size≤1000000000000):SC G Tryz.prog 142 [.agg [s.val].toArray] H (fun v H'=> (fI fs=false∧v= .tuple #[.slice none 0 0,G.err 0]∧H'=H)∨(fI fs=true∧∃s':SV,v= .tuple #[s'.val, .nilIface]∧H'=Row s' eB (wW fs)::H)):=by
 refine sWk Tryz.func142 Tryz.ntmps142 ?_
 refine gk (k:=bxx (k:=fun b1=>?_))
 refine go ?_
 refine c1_ rfl (wq hn hf) (k:=?_)
 rintro v1 H1 hK
 rcases hK with⟨rfl,⟨hc,rfl⟩|⟨hc,rfl⟩⟩
 ·refine e_ asn (k:=on_ (qn_ (ws_ (wr_ (e_ mv (k:=?_))))))
  refine e_ (cZ rfl) (k:=?_)
  refine gk (k:=ift (k:=gk (k:=rt_ Tryz.results142 (k:=?_))))
  exact⟨_,hsb, .inl ⟨hc,rfl,rfl⟩⟩
 obtain⟨⟨hl1,hl2⟩,hfl⟩:=il hc
 refine e_ asn (k:=on_ (qn_ (ws_ (wr_ (e_ mv (k:=?_))))))
 refine e_ (cM rfl) (k:=?_)
 refine gk (k:=eg (k:=go ?_))
 refine c0_ rfl (fM) (k:=?_)
 rintro _ _ ⟨bw,rfl,rfl⟩
 refine e_ asn (k:=on_ (qn_ (ws_ (wr_ (e_ mv (k:=e_ fla (k:=e_ ldv (k:=e_ lnn (k:=?_)))))))))
 refine e_ ((ae)) (k:=?_)
 refine d2_ rfl (ek fs.length (aa) (an)) (k:=gk (k:=wl_ (Nat×List Nat) (fun y=> y.1≤fs.length∧y.2=uv fs.length++o5 (fs.take y.1)∧y.2.length≤100+100*y.1) (fun y=> [(5, .pointer (some ⟨bw,0,none⟩)),(22,s.val),(23, .int .i64 ((fs.length:Nat):Int)),(24, .int .i64 ((y.1:Nat):Int))]) (fun y=> Wr bw y.2::H) (fun y=> fs.length - y.1) ((0,uv fs.length)) (h0:=?_) (k:=?_)))
 ·try dsimp only
  have:=fq (n:=fs.length) (aa)
  exact⟨Yl _,by simp[o5],aa⟩
 rintro⟨i,zs⟩ ⟨hi,hI,hzl⟩
 try dsimp only at*
 refine gk (k:=wi_ (k:=fun h1=>?_) (m:=fun h1=>?_))
 ·obtain⟨f,hfi⟩:∃f,fs[i]? =some f:=⟨_,Yi (aa)⟩
  obtain⟨hfn,hk1,hk2⟩:=hfl f (Yj hfi)
  have hul:=fq (n:=f.name.size) (aa)
  have hbl:=cL f.name
  have hkB:=Ox f (aa)
  have o0:f.kind.toNat<256:=aa
  have o1:f.kind.toNat ||| 4<256:=Nat.or_lt_two_pow (n:=8) o0 (ag)
  have o2:f.kind.toNat ||| 4 ||| 8<256:=Nat.or_lt_two_pow (n:=8) o1 (ag)
  have o3:f.kind.toNat ||| 8<256:=Nat.or_lt_two_pow (n:=8) o0 (ag)
  have hel:(iF f).length≤100:=by simp only[iF,Ya,Yb,Yc];omega
  refine gk (k:=alc (k:=fun b2=>?_))
  refine go ?_
  refine d2_ rfl (Ei f.name (aa) (aa)) (k:=on_ (qn_ (ws_ (wr_ (e_ fla (k:=e_ ldv (k:=?_)))))))
  refine e_ (cU 256 rfl rfl rfl f.kind.toNat (aa) (aa)) (k:=?_)
  refine gk (k:=wi_ (k:=fun h2=>?_) (m:=fun h2=>?_))
  ·refine wr_ (e_ mv (k:=?_))
   refine e_ (iE 256 rfl rfl rfl rfl _ 4 rfl rfl (aj) (aj)) (k:=?_)
   refine gk (k:=wi_ (k:=fun h3=>?_) (m:=fun h3=>?_))
   ·refine wr_ (e_ mv (k:=?_))
    refine e_ (iE 256 rfl rfl rfl rfl _ 8 rfl rfl (aj) (aj)) (k:=?_)
    refine gk (k:=wi_ (k:=fun h4=>?_) (m:=fun h4=>?_))
    ·refine wr_ (e_ mv (k:=?_))
     refine e_ (iE 256 rfl rfl rfl rfl _ 16 rfl rfl (aj) (aj)) (k:=?_)
     refine e_ asn (k:=on_ (qn_ (wr_ (?_))))
     simp only[*,Bool.false_eq_true,↓reduceIte]at hkB
     rw[hkB]
     refine go ?_
     refine d2_ rfl (ny (kB f) (ai)) (k:=go ?_)
     refine ln_ ((i+1,zs++iF f)) (h4:=?_) (k:=?_)
     ·try dsimp only
      rw[show zs++iF f=zs++(uv f.name.size++cF f.name)++ [kB f] by simp[iF]]
      exact hsb
     try dsimp only
     refine⟨aa,?_,ai⟩
     rw[hI,cP hfi,gL,Yf]
    refine wk_ (qn_ (wr_ (?_)))
    simp only[*,Bool.false_eq_true,↓reduceIte]at hkB
    rw[hkB]
    refine go ?_
    refine d2_ rfl (ny (kB f) (ai)) (k:=go ?_)
    refine ln_ ((i+1,zs++iF f)) (h4:=?_) (k:=?_)
    ·try dsimp only
     rw[show zs++iF f=zs++(uv f.name.size++cF f.name)++ [kB f] by simp[iF]]
     exact hsb
    try dsimp only
    refine⟨aa,?_,ai⟩
    rw[hI,cP hfi,gL,Yf]
   refine gk (k:=wi_ (k:=fun h5=>?_) (m:=fun h5=>?_))
   ·refine wr_ (e_ mv (k:=?_))
    refine e_ (iE 256 rfl rfl rfl rfl _ 16 rfl rfl (aj) (aj)) (k:=?_)
    refine e_ asn (k:=on_ (qn_ (wr_ (?_))))
    simp only[*,Bool.false_eq_true,↓reduceIte]at hkB
    rw[hkB]
    refine go ?_
    refine d2_ rfl (ny (kB f) (ai)) (k:=go ?_)
    refine ln_ ((i+1,zs++iF f)) (h4:=?_) (k:=?_)
    ·try dsimp only
     rw[show zs++iF f=zs++(uv f.name.size++cF f.name)++ [kB f] by simp[iF]]
     exact hsb
    try dsimp only
    refine⟨aa,?_,ai⟩
    rw[hI,cP hfi,gL,Yf]
   refine wk_ (qn_ (wr_ (?_)))
   simp only[*,Bool.false_eq_true,↓reduceIte]at hkB
   rw[hkB]
   refine go ?_
   refine d2_ rfl (ny (kB f) (ai)) (k:=go ?_)
   refine ln_ ((i+1,zs++iF f)) (h4:=?_) (k:=?_)
   ·try dsimp only
    rw[show zs++iF f=zs++(uv f.name.size++cF f.name)++ [kB f] by simp[iF]]
    exact hsb
   try dsimp only
   refine⟨aa,?_,ai⟩
   rw[hI,cP hfi,gL,Yf]
  refine gk (k:=wi_ (k:=fun h6=>?_) (m:=fun h6=>?_))
  ·refine wr_ (e_ mv (k:=?_))
   refine e_ (iE 256 rfl rfl rfl rfl _ 8 rfl rfl (aj) (aj)) (k:=?_)
   refine gk (k:=wi_ (k:=fun h7=>?_) (m:=fun h7=>?_))
   ·refine wr_ (e_ mv (k:=?_))
    refine e_ (iE 256 rfl rfl rfl rfl _ 16 rfl rfl (aj) (aj)) (k:=?_)
    refine e_ asn (k:=on_ (qn_ (wr_ (?_))))
    simp only[*,Bool.false_eq_true,↓reduceIte]at hkB
    rw[hkB]
    refine go ?_
    refine d2_ rfl (ny (kB f) (ai)) (k:=go ?_)
    refine ln_ ((i+1,zs++iF f)) (h4:=?_) (k:=?_)
    ·try dsimp only
     rw[show zs++iF f=zs++(uv f.name.size++cF f.name)++ [kB f] by simp[iF]]
     exact hsb
    try dsimp only
    refine⟨aa,?_,ai⟩
    rw[hI,cP hfi,gL,Yf]
   refine wk_ (qn_ (wr_ (?_)))
   simp only[*,Bool.false_eq_true,↓reduceIte]at hkB
   rw[hkB]
   refine go ?_
   refine d2_ rfl (ny (kB f) (ai)) (k:=go ?_)
   refine ln_ ((i+1,zs++iF f)) (h4:=?_) (k:=?_)
   ·try dsimp only
    rw[show zs++iF f=zs++(uv f.name.size++cF f.name)++ [kB f] by simp[iF]]
    exact hsb
   try dsimp only
   refine⟨aa,?_,ai⟩
   rw[hI,cP hfi,gL,Yf]
  refine gk (k:=wi_ (k:=fun h8=>?_) (m:=fun h8=>?_))
  ·refine wr_ (e_ mv (k:=?_))
   refine e_ (iE 256 rfl rfl rfl rfl _ 16 rfl rfl (aj) (aj)) (k:=?_)
   refine e_ asn (k:=on_ (qn_ (wr_ (?_))))
   simp only[*,Bool.false_eq_true,↓reduceIte]at hkB
   rw[hkB]
   refine go ?_
   refine d2_ rfl (ny (kB f) (ai)) (k:=go ?_)
   refine ln_ ((i+1,zs++iF f)) (h4:=?_) (k:=?_)
   ·try dsimp only
    rw[show zs++iF f=zs++(uv f.name.size++cF f.name)++ [kB f] by simp[iF]]
    exact hsb
   try dsimp only
   refine⟨aa,?_,ai⟩
   rw[hI,cP hfi,gL,Yf]
  refine wk_ (qn_ (wr_ (?_)))
  simp only[*,Bool.false_eq_true,↓reduceIte]at hkB
  rw[hkB]
  refine go ?_
  refine d2_ rfl (ny (kB f) (ai)) (k:=go ?_)
  refine ln_ ((i+1,zs++iF f)) (h4:=?_) (k:=?_)
  ·try dsimp only
   rw[show zs++iF f=zs++(uv f.name.size++cF f.name)++ [kB f] by simp[iF]]
   exact hsb
  try dsimp only
  refine⟨aa,?_,ai⟩
  rw[hI,cP hfi,gL,Yf]
 obtain rfl:i=fs.length:=aa
 rw[List.take_length]at hI
 have hI':zs=wW fs:=hI
 subst hI'
 refine go ?_
 refine c1_ rfl (iv (aa)) (k:=?_)
 rintro _ _ ⟨s1,rfl,rfl⟩
 refine gk (k:=rt_ Tryz.results142 (k:=?_))
 exact⟨_,hsb, .inr ⟨hc,s1,rfl,rfl⟩⟩
def mkF (q:List Nat) (k:Nat):FV:=⟨dL q,((k &&& 3:Nat):Int),decide (((k &&& 4:Nat):Int)≠0),decide (((k &&& 8:Nat):Int)≠0),decide (((k &&& 16:Nat):Int)≠0)⟩
theorem D7 {most:Nat}{l q:List Nat}{m:Nat}(hb:∀x∈l,x<256) (h:jK most l= .ok (q,m)):m≤l.length∧q.length≤most∧(∀x∈q,x<256)∧l.take m=uv q.length++q:=by
 unfold jK at h
 split at h
 ·cases h
 ·rename_i n m' hr
  obtain⟨h1,h2,h3,h4⟩:=jm hb hr
  split at h
  ·cases h
  ·simp only[Except.ok.injEq,Prod.mk.injEq]at h
   obtain⟨rfl,rfl⟩:=h
   have hl:((l.drop m').take n).length=n:=by rw[Yg,Yo];omega
   refine⟨aa,aa,fun x hx=> hb x (Yp (Yq hx)),?_⟩
   rw[hl,←h3,List.take_add]
section
variable {G:cK}{P:Program}{t:Tm}{H:cG}{dst:Option Tmp}{ty:TypeId}{pos:String}{after:Array Edge}{g:Option (Nat×Bool)}
end
end Go.Sx
