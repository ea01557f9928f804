import Derived.Test.YtefgpomabdplbaaGreatDoorQ38
set_option linter.unusedVariables false
set_option linter.unusedSimpArgs false
set_option linter.unusedSectionVars false
set_option linter.unnecessarySimpa false
set_option maxHeartbeats 0
namespace Go.Sx
open Go Go.Proofs
set_option maxRecDepth 100000
def jS:Prop:=∀(G:cK) (H R:cG) (s:SV) (xs:List Int),na H s eI xs R→xs.length≤1000000000000→SC G Tryz.prog 166 [s.val] H (fun v H'=> v= .tuple #[]∧H'=Row s eI (gK xs)::R)
def fg:Prop:=∀(G:cK) (H R:cG) (s:SV) (xs:List Int),na H s eI xs R→xs.length≤1000000000000→SC G Tryz.prog 168 [s.val] H (fun v H'=> ∃s':SV,v=s'.val∧H'=Row s' eI (j8 xs)::R)
theorem qT (x:Int):∀l:List Int,(AF x l).Perm (x::l)
 | []=> .refl _
 |y::l=> by
  rw[AF]
  split
  ·exact .refl _
  ·exact((qT x l).cons y).trans (.swap x y l)
theorem kj:∀l:List Int,(gK l).Perm l
 | []=> .refl _
 |x::l=> (qT x (gK l)).trans ((kj l).cons x)
theorem vg (l:List Int):(gK l).length=l.length:=(kj l).length_eq
theorem vf {l:List Int}{x:Int}(h:x∈gK l):x∈l:=(kj l).mem_iff.1 h
theorem ux:∀{l:List Int}{x:Int},x∈j8 l→x∈l
 | [],x,h=> h
 | [y],x,h=> h
 |y::z::l,x,h=> by
  rw[j8]at h
  split at h
  ·exact Xa _ (ux h)
  ·rcases List.mem_cons.1 h with rfl|h
   ·simp
   ·exact Xa _ (ux h)
theorem uy:∀l:List Int,(j8 l).length≤l.length
 | []=> Nat.le_refl _
 | [y]=> Nat.le_refl _
 |y::z::l=> by
  rw[j8]
  have h:=uy (z::l)
  split
  ·simp only[Yb]at h⊢;omega
  ·simp only[Yb]at h⊢;omega
theorem rB:∀{lists:List (List Nat)}{offs:List Int}{i:Nat}{l:List Nat}{o:Int},lists[i]? =some l→offs[i]? =some o→lj (lists.take (i+1)) (offs.take (i+1))=lj (lists.take i) (offs.take i)++ [Ad l o]
 | [],_,_,_,_,h,_=> aG
 |_::_, [],_,_,_,_,h=> aG
 |l0::ls,o0::os,0,l,o,h1,h2=> by
  simp only[Xb,Option.some.injEq]at h1 h2
  subst h1;subst h2
  rfl
 |l0::ls,o0::os,i+1,l,o,h1,h2=> by
  simp only[Xc]at h1 h2
  have:=rB h1 h2
  simp only[List.take_succ_cons,lj,Yd]at this⊢
  rw[this]
theorem Jb {α:Type}(A B:List α) (s t:α) {i:Nat}(h:A.length=i):(A++s::B).set i t=A++t::B:=by
 subst h;rw[List.set_append_right _ _ (Nat.le_refl _),Nat.sub_self];all_goals rfl
theorem JU {α:Type}(A B:List α) (s:α) {i:Nat}(h:A.length=i):(A++s::B)[i]? =some s:=by
 subst h;rw[Yu (Nat.le_refl _),Nat.sub_self];all_goals rfl
theorem F8 {l:List (List Nat)}{i:Nat}{x:List Nat}(h:l[i]? =some x):((l.take (i+1)).map List.length).sum=((l.take i).map List.length).sum+x.length:=by
 rw[cP h];simp
theorem BI (l:List (List Nat)) (i:Nat):((l.take i).map List.length).sum≤(l.map List.length).sum:=by
 have:=congrArg (fun z=> (z.map List.length).sum) (List.take_append_drop i l)
 simp only[List.map_append,List.sum_append]at this;omega
def shH (z:SV×List Int):cG:= [Row z.1 eI z.2]
theorem J9 {l:List (SV×List Int)}(s:SV) (ys:List Int) {H:cG}:cJ (Row s eI ys::Cl shH l::H) (Cl shH (l++ [(s,ys)])::H):=mX (f:=shH) (s,ys)
theorem Al {lists:List (List Nat)}{offs:List Int}{slop:Int}{l:List Nat}{p:Nat}(h1:l∈lists) (h2:p∈l) (h3:2147483646<p):jW lists offs slop=0:=by
 unfold jW
 rw[if_pos]
 rw[List.any_eq_true]
 exact⟨l,h1,by rw[List.any_eq_true];exact⟨p,h2,Ys h3⟩⟩
theorem yk {lists:List (List Nat)}{offs:List Int}{slop:Int}(h:∀l∈lists,∀p∈l,p≤2147483646):jW lists offs slop=k9 slop (lj lists offs) (j8 (gK (lj lists offs).flatten)) (List.replicate lists.length 0):=by
 unfold jW
 rw[if_neg]
 rw[List.any_eq_true]
 rintro⟨l,h1,h2⟩
 rw[List.any_eq_true]at h2
 obtain⟨p,h3,h4⟩:=h2
 have:=h l h1 p h3
 have:=Yt h4
 omega
theorem Oe {H:cG}{zs:List (SV×List Int)}{rw:List SV}{q:Nat}{s:SV}{l:List Int}(hrw:rw=zs.map (·.1)) (h1:rw[q]? =some s) (h2:(zs.map (·.2))[q]? =some l) (h:∀z∈zs,Sl H z.1 eI z.2):Sl H s eI l:=by
 subst hrw
 rw[Xd]at h1 h2
 cases hz:zs[q]? with
 |none=> rw[hz]at h1;cases h1
 |some z=>
  rw[hz]at h1 h2
  obtain rfl:=Option.some.inj h1
  obtain rfl:=Option.some.inj h2
  exact h z (Yj hz)
theorem yB:∀{L:List (List Int)}{l:List Int},l∈L→l.length≤L.flatten.length
 | [],_,h=> aW
 |x::L,l,h=> by
  rw[List.flatten_cons,Ya]
  rcases List.mem_cons.1 h with rfl|h
  ·omega
  ·have:=yB h;omega
theorem xG {G:cK}{H:cG}{sl so:SV}{ss:List SV}{lists:List (List Nat)}{offs:List Int}{slop:Int} [hsl:Sl H sl eSV ss] [hso:Sl H so eI offs] (hS:jS) (hC:fg) (hll:ss.length=lists.length) (hin:∀(i:Nat) (s:SV) (l:List Nat),ss[i]? =some s→lists[i]? =some l→Sl H s eI (cV l)) (hlo:lists.length=offs.length) (hn0:0<lists.length) (hn:lists.length≤100000000) (hoff:∀o∈offs,0≤o∧o≤2147483646) (hs1:0≤slop) (hs2:slop≤2147483647) (htot:(lists.map List.length).sum≤1000000000000):
 SC G Tryz.prog 134 [sl.val,so.val, .int .i64 slop] H (fun v H'=> v= .int .i64 ((jW lists offs slop:Nat):Int)∧H'=H):=by
 refine sWk Tryz.func134 Tryz.ntmps134 ?_
 refine ws_ (wr_ (e_ asn (k:=on_ (qn_ (ws_ (ws_ (wr_ (e_ mv (k:=e_ lnn (k:=e_ ieq (k:=e_ mv (k:=dN 6 22 (k:=fun h1=>eg_ mv (k:=eg_ lnn (k:=eg_ mv (k:=eg_ lnn (k:=eg_ ine (k:=e_ pkf (k:=on_ (edq)))))))) (q:=e_ mv (k:=?_))))))))))))))
 refine dN 3 26 (k:=fun h2=>eg_ mv (k:=eg_ ilt (k:=e_ pkf (k:=on_ (edq))))) (q:=e_ mv (k:=dN 3 30 (k:=fun h3=>eg_ mv (k:=eg_ igt (k:=e_ pkf (k:=on_ (edq))))) (q:=on_ (qn_ (wi_ (k:=fun h4=>?_) (m:=fun h4=>?_))))))
 ·exact absurd h4 (aM)
 refine go ?_
 refine s_ (eX eSV SV.nil rfl rfl _ _ rfl rfl rfl (aa) (aa) (aa)) (k:=?_)
 rintro _ _ ⟨s33,rfl,hs33n,hs33c,rfl⟩
 refine e_ asn (k:=on_ (qn_ (ws_ (ws_ (wr_ (?_))))))
 refine du ((cJ.nilRow (e:=eI) cJ.refl).trans (fe (f:=shH) cJ.refl)) ?_
 refine gk (k:=dt (Nat×(List (SV×List Int))×(List SV)×SV×(List Int)) (fun y=> y.1≤lists.length∧y.2.1.length=y.1∧y.2.2.1=y.2.1.map (·.1)++List.replicate (lists.length - y.1) SV.nil∧y.2.1.map (·.2)=lj (lists.take y.1) (offs.take y.1)∧y.2.2.2.2=(y.2.1.map (·.2)).flatten∧y.2.2.2.2.length≤((lists.take y.1).map List.length).sum∧(∀l∈lists.take y.1,∀p∈l,p≤2147483646)∧∀x∈y.2.2.2.2, -2147483646≤x∧x≤2147483646) (fun y=> [(7,y.2.2.2.1.val),(36, .int .i64 ((y.1:Nat):Int))]) [(1,_),(2,_),(8,_),(34,_),(35,_)] (fun y=> [Row s33 eSV y.2.2.1,Cl shH y.2.1,Row y.2.2.2.1 eI y.2.2.2.2]) _ (fun y=> lists.length - y.1) ((0, [],List.replicate ss.length SV.nil,SV.nil, [])) (h0:=?_) (k:=?_))
 ·try dsimp only
  exact⟨Yl _,rfl,by rw[hll];all_goals rfl,by simp[lj],rfl,Yl _,an,an⟩
 rintro⟨i,zs,rw,sa,al⟩ ⟨hi,hzl,hrw,hzs,hal,hall,hpb,hab⟩
 try dsimp only[Yd,Ye]at*
 refine gk (k:=wi_ (k:=fun h5=>?_) (m:=fun h5=>?_))
 ·obtain⟨l,hl⟩:∃l,lists[i]? =some l:=⟨_,Yi (aa)⟩
  obtain⟨s0,hs0⟩:∃s,ss[i]? =some s:=⟨_,Yi (aa)⟩
  obtain⟨o,ho⟩:∃o,offs[i]? =some o:=⟨_,Yi (aa)⟩
  haveI hsi:Sl H s0 eI (cV l):=hin i s0 l hs0 hl
  have hob:=hoff o (Yj ho)
  have hml:=Yj hl
  have hsum:=F8 hl
  have hsle:=BI lists (i+1)
  have hil:=dO l
  have hzm:(zs.map (·.1)).length=i:=by rw[Yh];exact hzl
  have hrw2:rw=zs.map (·.1)++SV.nil::List.replicate (lists.length - i - 1) SV.nil:=by
   rw[hrw,show lists.length - i=(lists.length - i - 1)+1 from aa,List.replicate_succ];all_goals rfl
  refine wk_ (qn_ (ws_ (wb_ (ws_ (wr_ (e_ mv (k:=e_ ixa (k:=e_ (lel (hy:=hs0)) (k:=e_ asn (k:=e_ asn (k:=on_ (qn_ (ws_ (?_))))))))))))))
  refine ws_ (wr_ (e_ mv (k:=e_ mv (k:=e_ ixa (k:=e_ (lel (hy:=ho)) (k:=e_ ilt (k:=e_ mv (k:=dN 6 52 (k:=fun h6=>eg_ mv (k:=eg_ mv (k:=eg_ ixa (k:=eg_ (lel (hy:=ho)) (k:=eg_ igt (k:=e_ pkf (k:=on_ (edq)))))))) (q:=on_ (qn_ (wi_ (k:=fun h7=>?_) (m:=fun h7=>?_))))))))))))
  ·exact absurd h7 (aa)
  refine wk_ (qn_ (ws_ (ws_ (wr_ (?_)))))
  refine du (cJ.nilRow (e:=eI) cJ.refl) ?_
  refine gk (k:=dt (Nat×SV×(List Int)×(List SV)) (fun y=> y.1≤l.length∧y.2.2.2=zs.map (·.1)++y.2.1::List.replicate (lists.length - i - 1) SV.nil∧y.2.2.1=(l.take y.1).map (fun p:Nat=> (p:Int) - o)∧∀p∈l.take y.1,p≤2147483646) (fun y=> [(55, .int .i64 ((y.1:Nat):Int))]) [(1,_),(2,_),(7,_),(8,_),(9,_),(34,_),(35,_),(36,_),(53,_),(54,_)] (fun y=> [Row s33 eSV y.2.2.2,Row y.2.1 eI y.2.2.1]) _ (fun y=> l.length - y.1) ((0,SV.nil, [],rw)) (h0:=?_) (k:=?_))
  ·try dsimp only
   exact⟨Yl _,hrw2,rfl,an⟩
  rintro⟨j,s,ys,rv⟩ ⟨hj,hrv,hys,hpj⟩
  try dsimp only[Yd,Ye]at*
  have hgv:rv[i]? =some s:=by rw[hrv];exact JU _ _ _ hzm
  have hyl:ys.length=j:=by rw[hys,Yh,Yg];omega
  have hvl:i<rv.length:=(Yk.1 hgv).1
  refine gk (k:=wi_ (k:=fun h8=>?_) (m:=fun h8=>?_))
  ·obtain⟨p,hp⟩:∃p,l[j]? =some p:=⟨_,Yi (aa)⟩
   have hrp:(cV l)[j]? =some ((p:Nat):Int):=ez hp
   have hll9:l.length≤1000000000000:=aa
   refine wk_ (qn_ (ws_ (wb_ (ws_ (wr_ (e_ ixa (k:=e_ (lel (hy:=hrp)) (k:=e_ asn (k:=on_ (qn_ (ws_ (ws_ (wr_ (?_))))))))))))))
   refine e_ mv (k:=e_ ilt (k:=e_ mv (k:=dN 3 64 (k:=fun h9=>eg_ mv (k:=eg_ igt (k:=e_ pkf (k:=on_ (edq))))) (q:=on_ (qn_ (wi_ (k:=fun h10=>?_) (m:=fun h10=>?_)))))))
   ·have hbad:=Al (offs:=offs) (slop:=slop) hml (Yj hp) (by have h9:=h10;omega)
    refine go ?_
    refine gk (k:=rt_ Tryz.results134 (k:=?_))
    exact⟨_,hsb,by rw[hbad];all_goals rfl,rfl⟩
   have hp2:p≤2147483646:=by have h9:=h10;omega
   refine go ?_
   refine df cI (fun i=> [12,13,15].contains i) (fun k H=> (k=4→Sl H s33 eSV rv)∧(k=5→Sl H s33 eSV rv)∧(k=9→Sl H so eI offs)∧(k=10→Sl H so eI offs)∧(k=14→Sl H s33 eSV rv)) (af_ 0 (q:=cD fun H hH=>mv) (k:=af_ 1 (q:=cD fun H hH=>mv) (k:=af_ 2 (q:=cD fun H hH=>mv) (k:=af_ 3 (q:=cD fun H hH=>mv) (k:=?_)))))
   refine cE 4 rfl rfl (a8) rfl (cD fun H hH=>by have hN:=hH.1 rfl;exact ixa) (?_)
   refine cE 5 rfl rfl (a8) rfl (cD fun H hH=>by have hN:=hH.2.1 rfl;exact lel (hy:=hgv)) (?_)
   refine af_ 6 (q:=cD fun H hH=>mv) (k:=af_ 7 (q:=cD fun H hH=>mv) (k:=af_ 8 (q:=cD fun H hH=>mv) (k:=?_)))
   refine cE 9 rfl rfl (a8) rfl (cD fun H hH=>aV) (?_)
   refine cE 10 rfl rfl (a8) rfl (cD fun H hH=>by have hN:=hH.2.2.2.1 rfl;exact lel (hy:=ho)) (?_)
   refine af_ 11 (q:=cD fun H hH=>isb) (k:=?_)
   refine cN 12 rfl (a8) rfl (fun k hk=> ⟨fun hi=> ab,fun hi=> ab,fun hi=> ab,fun hi=> ab,fun hi=> ab⟩) (ew eI rfl rfl) ?_
   rintro _ _ ⟨s77,rfl,rfl⟩
   refine cN 13 rfl (a8) rfl (fun k hk=> ⟨fun hi=> ab,fun hi=> ab,fun hi=> ab,fun hi=> ab,fun hi=> ab⟩) (eY rfl rfl rfl rfl (af) (af)) ?_
   rintro _ _ ⟨s78,rfl,rfl⟩
   refine cE 14 rfl rfl (a8) rfl (cD fun H hH=>by have hN:=hH.2.2.2.2 rfl;exact ixa) (?_)
   refine cN 15 rfl (a8) rfl (fun k hk=> ⟨fun hi=> ab,fun hi=> absurd hk (ad),fun hi=> ab,fun hi=> ab,fun hi=> ab⟩) (dH (i:=i) rfl rfl (bQ) hvl) ?_
   rintro _ _ ⟨rfl,rfl⟩
   refine db (a8) (fun k hk=> ⟨fun hi=> absurd hk (ad),fun hi=> absurd hk (ad),fun hi=> absurd hk (ad),fun hi=> absurd hk (ad),fun hi=> absurd hk (ad)⟩) (go ?_)
   refine ln_ ((j+1,s78,ys++ [((p:Nat):Int) - o],rv.set i s78)) (k:=?_)
   try dsimp only
   exact⟨aa,by rw[hrv,Jb _ _ _ _ hzm],by rw[cP hp,List.map_append,←hys];all_goals rfl,fun q hq=> by
    rw[cP hp]at hq
    rcases List.mem_append.1 hq with hq|hq
    ·exact hpj q hq
    ·rw[List.mem_singleton.1 hq];exact hp2⟩
  obtain rfl:j=l.length:=aa
  rw[List.take_length]at hys hpj
  have hsh:gK ys=Ad l o:=by rw[hys];all_goals rfl
  have hll9:l.length≤1000000000000:=aa
  have hslen:=vg ys
  refine we_ (qe_ (le_ (bh_ (qn_ (ws_ (wr_ (e_ mv (k:=e_ mv (k:=e_ ixa (k:=e_ (lel (hy:=hgv)) (k:=?_)))))))))))
  refine d1_ rfl (hS _ _ _ s ys inferInstance (aa)) (k:=on_ (qn_ (wr_ (e_ mv (k:=e_ mv (k:=e_ mv (k:=e_ ixa (k:=e_ (lel (hy:=hgv)) (k:=app (k:=fun s91=>?_))))))))))
  refine e_ asn (k:=on_ (bn_ (qn_ (wr_ (?_)))))
  refine du (cJ.trans (H':=Row s eI (gK ys)::Cl shH zs::Row s33 eSV rv::Row s91 eI (al++gK ys)::H) (hsb) (J9 s (gK ys))) ?_
  refine go ?_
  refine ln_ ((i+1,zs++ [(s,gK ys)],rv,s91,al++gK ys)) (k:=?_)
  try dsimp only
  exact⟨aa,by rw[Ya,hzl];all_goals rfl,by rw[hrv,List.map_append,Nat.sub_sub];simp,by rw[List.map_append,hzs,rB hl ho,←hsh];all_goals rfl,by rw[List.map_append,List.flatten_append,←hal];simp,aT,fun l2 hl2 q hq=> by
   rw[cP hl]at hl2
   rcases List.mem_append.1 hl2 with h9|h9
   ·exact hpb l2 h9 q hq
   ·rw[List.mem_singleton.1 h9]at hq;exact hpj q hq,fun x hx=> by
   rcases List.mem_append.1 hx with h9|h9
   ·exact hab x h9
   ·have h8:=vf h9
    rw[hys,List.mem_map]at h8
    obtain⟨q,hq1,hq2⟩:=h8
    have:=hpj q hq1
    omega⟩
 obtain rfl:i=lists.length:=aa
 have hsle:=BI lists lists.length
 rw[List.take_length]at hpb
 rw[List.take_of_length_le (Nat.le_refl _),List.take_of_length_le (aa)]at hzs
 have hgood:=yk (offs:=offs) (slop:=slop) hpb
 have hslen:=vg al
 have hdlen:=uy (gK al)
 rw[Nat.sub_self,List.replicate_zero,Ym]at hrw
 refine go ?_
 refine d1_ rfl (hS _ _ _ sa al inferInstance (aa)) (k:=go ?_)
 refine c1_ rfl (hC _ _ _ sa (gK al) inferInstance (aa)) (k:=?_)
 rintro _ _ ⟨s96,rfl,rfl⟩
 refine go ?_
 refine d3_ rfl (IQ (ss:=rw) (lists:=zs.map (·.2)) (all:=j8 (gK al)) (by rw[hrw,Yh,Yh]) (fun q s l h1 h2=> Oe hrw h1 h2 (fun z hz=> by haveI:∀R,Sl (Cl shH zs::R) z.1 eI z.2:=fun R=> Lp (List.mem_iff_getElem?.1 hz).choose_spec (fun R=> (inferInstance:Sl (Row z.1 eI z.2::R) z.1 eI z.2));infer_instance)) (by rw[hrw,Yh];omega) hs1 hs2 (aa) (fun x hx=> by have:=hab x (vf (ux hx));omega) (fun l hl=> by have:=yB hl;rw[←hal]at this;omega)) (k:=gk (k:=rt_ Tryz.results134 (k:=?_)))
 exact⟨_,hsb,by rw[hgood,←hzs,←hal,Yh,hzl];all_goals rfl,rfl⟩
theorem tR {x:Int}{n:Nat}(h:eh x n=true):0≤x∧x<(n:Int):=by simpa [eh] using h
theorem rH {p:PrG}{n:jT}:∀{l os:List Int},l.length=os.length→rI p n l os=true→(∀k∈l,0≤k∧k<((p.curs.length:Nat):Int))∧∀o∈os,0≤o∧o≤2147483646
 | [], [],_,_=> ⟨an,an⟩
 | [],_::_,h,_=> aG
 |_::_, [],h,_=> aG
 |k::l,o::os,h,hc=> by
  rw[rI]at hc
  simp only[List.headD_cons,List.tail_cons,Bool.and_eq_true]at hc
  obtain⟨⟨⟨h1,h2⟩,h3⟩,h4⟩:=hc
  replace h1:=tR h1
  replace h2:=tR h2
  obtain⟨q1,q2⟩:=rH (aY) h4
  exact⟨fun x hx=> by rcases List.mem_cons.1 hx with rfl|hx;exact h1;exact q1 x hx,fun x hx=> by rcases List.mem_cons.1 hx with rfl|hx;(have:=h2.2;exact⟨h2.1,aa⟩);exact q2 x hx⟩
theorem Au {p:PrG}{n:jT}(h:gl p n=true):1≤n.cs.length∧n.cs.length=n.offs.length∧0≤n.slop∧n.slop≤2147483646∧(∀k∈n.cs,0≤k∧k<((p.curs.length:Nat):Int))∧∀o∈n.offs,0≤o∧o≤2147483646:=by
 rw[gl]at h
 simp only[Bool.and_eq_true,eh,decide_eq_true_eq]at h
 obtain⟨⟨⟨h1,h2⟩,h3⟩,h4⟩:=h
 obtain⟨q1,q2⟩:=rH h2.symm h4
 exact⟨h1,h2.symm,h3.1,by have:=h3.2;omega,q1,q2⟩
def GdC (T:Nat) (c:CuS):Prop:=iK c∧dg c.ps≤T
theorem GY {T:Nat}{l:List CuS}{i:Nat}{c:CuS}(h:∀c∈l,GdC T c) (hc:GdC T c):∀x∈l.set i c,GdC T x:=fun x hx=> by
 rcases List.mem_or_eq_of_mem_set hx with h1|h1
 ·exact h x h1
 ·rw[h1];exact hc
theorem GX {T:Nat}{c:CuS}{d:Int}(h:GdC T c):GdC T (ei d c):=⟨tf h.1,by rw[td];exact h.2⟩
theorem No {T:Nat}{c:CuS}(h:GdC T c):GdC T (ln c):=⟨h.1.pos,by rw[FI];exact h.2⟩
theorem Ii {l:List Po}{q:Po}(h:q∈l):q.2.length≤dg l:=by
 induction l with
 |nil=> cases h
 |cons a r ih=>
  have hs:dg (a::r)=a.2.length+dg r:=by simp[dg]
  rcases List.mem_cons.1 h with rfl|h
  ·omega
  ·have:=ih h;omega
theorem JQ (c:CuS):(eV c).length≤dg c.ps:=by
 unfold eV
 split
 ·exact Yl _
 ·split
  ·rename_i q hq;exact Ii (Yj hq)
  ·exact Yl _
theorem MJ {H:cG}{zs:List (SV×List Nat)}{i:Nat}{s:SV}{l:List Nat}(h1:(zs.map (·.1))[i]? =some s) (h2:(zs.map (·.2))[i]? =some l) (h:∀z∈zs,Sl H z.1 eI (cV z.2)):Sl H s eI (cV l):=by
 rw[Xd]at h1 h2
 cases hz:zs[i]? with
 |none=> rw[hz]at h1;cases h1
 |some z=>
  rw[hz]at h1 h2
  obtain rfl:=Option.some.inj h1
  obtain rfl:=Option.some.inj h2
  exact h z (Yj hz)
section
variable {G:cK}{H R R2:cG}{m op A B d T:Nat}{x:MX}{y:MY}{p:PrG}{q:PtD}{ins:List Ins}{cs:List CuS}{n:jT}
theorem EU [hr:Rem H Mo m (x,y) R] [hc:Rem R Cl cuZ (x.cs.zip cs) R2] [hsc:Sl R2 x.cu ePt (x.cs.map fun b=> (b,0))] [hg:Glb G R2] [hpt:dq R2 x.pt q] [hpr:gE R2 x.pa p] (hS:jS) (hC:fg) (hk:MOk x p q cs) (hpl:y.pl=((d:Nat):Int)) (hn:p.nears[A]? =some n) (hnok:gl p n=true) (hT:∀c∈cs,dg c.ps≤T) (hTn:n.cs.length*T≤1000000000000) (hnl:n.cs.length≤100000000) (hnn:p.nears.length≤1000000000) (hB:B<18446744073709551616) (hd:d<q.ds.length) (hl:y.stk.length≤1000000000):
 SC G Tryz.prog 81 [.pointer (some ⟨m,0,none⟩),nw op A B] H (fun v H'=> v= .tuple #[]∧H'=Mo m (x,{y with stk:=y.stk++ [(mz (cS p q ins) d A B cs).1]})::Cl cuZ (x.cs.zip (mz (cS p q ins) d A B cs).2)::R2):=by
 have hcl:=hk.cl
 have hcn:=hk.n
 have hcu:=hk.cu
 have hav:=hk.av
 obtain⟨hn1,hno,hsl1,hsl2,hkb,hob⟩:=Au hnok
 have hAl:=(Yk.1 hn).1
 obtain⟨z,n',hz,hn',hz1,hz2,hz3⟩:=hpr.nr.get hAl
 obtain rfl:n=n':=Option.some.inj (hn.symm.trans hn')
 obtain⟨z1,z2,z3⟩:=z
 simp only at hz1 hz2 hz3
 subst hz3
 have hzl:=(Yk.1 hz).1
 have hgd0:∀c∈cs,GdC T c:=fun c hc9=> ⟨hk.ok c hc9,hT c hc9⟩
 have hnd:(cS p q ins).p.nears.getD A G4=n:=by show p.nears.getD A G4=n;rw[List.getD_eq_getElem?_getD,hn];all_goals rfl
 have hlm:(x.cs.map fun b=> ((b,0):Nat×Nat)).length=cs.length:=by rw[Yh,hcl]
 rw[mz,hnd]
 refine SC.less (cJ.rem hr (cJ.rem hc cJ.refl).keep) ?_
 refine nN (m:=m) (x:=x) (y:=y) (R:=Cl cuZ (x.cs.zip cs)::R2) inferInstance (fun s=> ?_)
 refine sWk Tryz.func81 Tryz.ntmps81 ?_
 refine gk (k:=bxx (k:=fun b3=>?_))
 refine go ?_
 refine df cI (fun i=> [9,10].contains i) (fun k H=> (k=4→cQ H m (mV x s y))∧(k=6→cQ H b3 [.int .i64 ((op:Nat):Int), .int .u64 ((A:Nat):Int), .int .u64 ((B:Nat):Int)])∧(k=7→Sl H x.pa.ne eNr x.pa.nz)∧(k=8→Sl H x.pa.ne eNr x.pa.nz)) (af_ 0 (q:=cD fun H hH=>mv) (k:=af_ 1 (q:=cD fun H hH=>nck) (k:=af_ 2 (q:=cD fun H hH=>fla) (k:=af_ 3 (q:=cD fun H hH=>fla) (k:=?_)))))
 refine cE 4 rfl rfl (a8) rfl (cD fun H hH=>ak) (?_)
 refine af_ 5 (q:=cD fun H hH=>fla) (k:=?_)
 refine cE 6 rfl rfl (a8) rfl (cD fun H hH=>ar) (?_)
 refine cE 7 rfl rfl (a8) rfl (cD fun H hH=>aV) (?_)
 refine cE 8 rfl rfl (a8) rfl (cD fun H hH=>by have hN:=hH.2.2.2 rfl;exact jn (hy:=hz)) (?_)
 refine cN 9 rfl (a8) rfl (fun k hk=> ⟨fun hi=> ab,fun hi=> ab,fun hi=> ab,fun hi=> ab⟩) (nK) ?_
 rintro _ _ ⟨b4,rfl,rfl⟩
 refine cN 10 rfl (a8) rfl (fun k hk=> ⟨fun hi=> ab,fun hi=> ab,fun hi=> ab,fun hi=> ab⟩) (dM rfl rfl rfl) ?_
 rintro _ _ ⟨rfl,rfl⟩
 refine db (a8) (fun k hk=> ⟨fun hi=> absurd hk (ad),fun hi=> absurd hk (ad),fun hi=> absurd hk (ad),fun hi=> absurd hk (ad)⟩) (qn_ (ws_ (ws_ (wr_ (?_)))))
 dsimp only
 refine gk (k:=dt (Nat×(List CuS)) (fun y=> y.1≤n.cs.length∧y.2.length=cs.length∧(∀c∈y.2,GdC T c)∧rQ d n.cs cs=rQ d (n.cs.drop y.1) y.2) (fun y=> [(23, .int .i64 ((y.1:Nat):Int))]) [(0,_),(3,_),(4,_),(21,_),(22,_)] (fun y=> [Cl cuZ (x.cs.zip y.2)]) _ (fun y=> n.cs.length - y.1) ((0,cs)) (h0:=?_) (k:=?_))
 ·try dsimp only
  exact⟨Yl _,rfl,hgd0,by rw[List.drop_zero]⟩
 rintro⟨i,ca⟩ ⟨hi,hal,hag,hall⟩
 try dsimp only[Yd,Ye]at*
 refine gk (k:=wi_ (k:=fun h1=>?_) (m:=fun h1=>?_))
 ·obtain⟨k0,hk0⟩:∃k,n.cs[i]? =some k:=⟨_,Yi (aa)⟩
  obtain⟨kb1,kb2⟩:=hkb k0 (Yj hk0)
  obtain⟨kn,rfl⟩:∃kn:Nat,k0=((kn:Nat):Int):=⟨k0.toNat,aa⟩
  obtain⟨b,hb⟩:∃b,x.cs[kn]? =some b:=⟨_,Yi (aa)⟩
  obtain⟨c,hcA⟩:∃c,ca[kn]? =some c:=⟨_,Yi (aa)⟩
  have hbp:(x.cs.map fun b=> ((b,0):Nat×Nat))[kn]? =some ((b,0):Nat×Nat):=by rw[Xd,hb];all_goals rfl
  have hgc:=hag c (Yj hcA)
  have hgdc:ca.getD ((kn:Nat):Int).toNat m5=c:=by rw[Int.toNat_natCast,List.getD_eq_getElem?_getD,hcA];all_goals rfl
  have hzc:=lB hb hcA
  have hzcl:=(Yk.1 hzc).1
  rw[dF hk0,rQ,hgdc,Int.toNat_natCast]at hall
  refine wk_ (qn_ (ws_ (wb_ (ws_ (wr_ (e_ ixa (k:=e_ (lel (hy:=hk0)) (k:=e_ asn (k:=on_ (qn_ (ws_ (wr_ (e_ mv (k:=?_))))))))))))))
  refine e_ mv (k:=e_ nck (k:=e_ fla (k:=e_ ldv (k:=e_ mv (k:=e_ ixa (k:=e_ (lel (hy:=hbp)) (k:=?_)))))))
  refine du (H':=CuH b c::Cl cuZ ((x.cs.zip ca).take kn)::Cl cuZ ((x.cs.zip ca).drop (kn+1))::Vr b4 [z1.val,z2.val, .int .i64 n.slop]::Vr b3 [.int .i64 ((op:Nat):Int), .int .u64 ((A:Nat):Int), .int .u64 ((B:Nat):Int)]::Vr m (mV x s y)::Row s eVV y.stk::R2) (cJ.trans (H':=Cl cuZ (x.cs.zip ca)::Vr b4 [z1.val,z2.val, .int .i64 n.slop]::Vr b3 [.int .i64 ((op:Nat):Int), .int .u64 ((A:Nat):Int), .int .u64 ((B:Nat):Int)]::Vr m (mV x s y)::Row s eVV y.stk::R2) (hsb) (qm hzc)) ?_
  refine d2_ rfl (Bu (x:=x) (y:=y) (s:=s) (c:=c) (d:=d) hpl hgc.1) (k:=gk (k:=wi_ (k:=fun h2=>?_) (m:=fun h2=>?_)))
  ·have hat:¬AD d (ei d c)=true:=by have h9:=h2;simpa using h9
   rw[if_neg hat]at hall
   refine ws_ (wr_ (e_ mv (k:=e_ (bld []) (k:=?_))))
   refine d2_ rfl (oX (x:=x) (y:=y) (s:=s) (a:=false) (v:=0) hl) (k:=gk (k:=rt_ Tryz.results81 (k:=?_)))
   rw[hall];dsimp only;rw[if_pos rfl];dsimp only;rw[←jy hb];exact⟨_,cJ.trans (H':=CuH b (ei d c)::Cl cuZ ((x.cs.zip ca).take kn)::Cl cuZ ((x.cs.zip ca).drop (kn+1))::Mo m (x,{y with stk:=y.stk++ [(false,0)]})::R2) (hsb) ((jD hzcl).trans (hsb)),rfl,rfl⟩
  have hat:AD d (ei d c)=true:=aO
  rw[if_pos hat]at hall
  refine wk_ (bn_ (qn_ (wr_ (?_))))
  refine du (H':=Cl cuZ (x.cs.zip (ca.set kn (ei d c)))::Vr b4 [z1.val,z2.val, .int .i64 n.slop]::Vr b3 [.int .i64 ((op:Nat):Int), .int .u64 ((A:Nat):Int), .int .u64 ((B:Nat):Int)]::Vr m (mV x s y)::Row s eVV y.stk::R2) (by rw[←jy hb];exact cJ.trans (H':=CuH b (ei d c)::Cl cuZ ((x.cs.zip ca).take kn)::Cl cuZ ((x.cs.zip ca).drop (kn+1))::Vr b4 [z1.val,z2.val, .int .i64 n.slop]::Vr b3 [.int .i64 ((op:Nat):Int), .int .u64 ((A:Nat):Int), .int .u64 ((B:Nat):Int)]::Vr m (mV x s y)::Row s eVV y.stk::R2) (hsb) (jD hzcl)) ?_
  refine go ?_
  refine ln_ ((i+1,ca.set kn (ei d c))) (k:=?_)
  try dsimp only
  exact⟨aa,by rw[List.length_set];exact hal,GY hag (GX hgc),hall⟩
 obtain rfl:i=n.cs.length:=aa
 rw[List.drop_length,rQ]at hall
 rw[hall];dsimp only;rw[if_neg (ag)]
 refine go ?_
 refine s_ (iN eSV rfl) (k:=?_)
 rintro _ _ ⟨s41,rfl,rfl⟩
 refine e_ asn (k:=on_ (qn_ (ws_ (ws_ (wr_ (?_))))))
 refine du (fe (f:=lnH) cJ.refl) ?_
 refine gk (k:=dt (Nat×(List CuS)×(List (SV×List Nat))×SV×(List SV)) (fun y=> y.1≤n.cs.length∧y.2.1.length=cs.length∧(∀c∈y.2.1,GdC T c)∧y.2.2.1.length=y.1∧y.2.2.2.2=y.2.2.1.map (·.1)∧((y.2.2.1.map (·.2)).map List.length).sum≤y.1*T∧jV n.cs ca=(y.2.2.1.map (·.2)++(jV (n.cs.drop y.1) y.2.1).1,(jV (n.cs.drop y.1) y.2.1).2)) (fun y=> [(7,y.2.2.2.1.val),(45, .int .i64 ((y.1:Nat):Int))]) [(0,_),(3,_),(4,_),(43,_),(44,_)] (fun y=> [Cl cuZ (x.cs.zip y.2.1),Row y.2.2.2.1 eSV y.2.2.2.2,Cl lnH y.2.2.1]) _ (fun y=> n.cs.length - y.1) ((0,ca, [],s41, [])) (h0:=?_) (k:=?_))
 ·try dsimp only
  exact⟨Yl _,hal,hag,rfl,rfl,Yl _,by rw[List.drop_zero];all_goals rfl⟩
 rintro⟨i2,cb,zs,sv,rw⟩ ⟨hi2,hbl,hbg,hzl2,hrw,hsum,htell⟩
 try dsimp only[Yd,Ye]at*
 refine gk (k:=wi_ (k:=fun h3=>?_) (m:=fun h3=>?_))
 ·obtain⟨k0,hk0⟩:∃k,n.cs[i2]? =some k:=⟨_,Yi (aa)⟩
  obtain⟨kb1,kb2⟩:=hkb k0 (Yj hk0)
  obtain⟨kn,rfl⟩:∃kn:Nat,k0=((kn:Nat):Int):=⟨k0.toNat,aa⟩
  obtain⟨b,hb⟩:∃b,x.cs[kn]? =some b:=⟨_,Yi (aa)⟩
  obtain⟨c,hcA⟩:∃c,cb[kn]? =some c:=⟨_,Yi (aa)⟩
  have hbp:(x.cs.map fun b=> ((b,0):Nat×Nat))[kn]? =some ((b,0):Nat×Nat):=by rw[Xd,hb];all_goals rfl
  have hgc:=hbg c (Yj hcA)
  have hgdc:cb.getD ((kn:Nat):Int).toNat m5=c:=by rw[Int.toNat_natCast,List.getD_eq_getElem?_getD,hcA];all_goals rfl
  have hzc:=lB hb hcA
  have hzcl:=(Yk.1 hzc).1
  rw[dF hk0,jV,hgdc,Int.toNat_natCast]at htell
  have hrwl:rw.length=i2:=by rw[hrw,Yh];exact hzl2
  have hhl:=Xi (JQ c) hgc.2
  refine wk_ (qn_ (ws_ (wb_ (ws_ (wr_ (e_ ixa (k:=e_ (lel (hy:=hk0)) (k:=e_ asn (k:=on_ (qn_ (wr_ (e_ mv (k:=e_ mv (k:=?_))))))))))))))
  refine e_ nck (k:=e_ fla (k:=e_ ldv (k:=e_ mv (k:=e_ ixa (k:=e_ (lel (hy:=hbp)) (k:=?_))))))
  refine du (H':=CuH b c::Cl cuZ ((x.cs.zip cb).take kn)::Cl cuZ ((x.cs.zip cb).drop (kn+1))::Row sv eSV rw::Cl lnH zs::Vr b4 [z1.val,z2.val, .int .i64 n.slop]::Vr b3 [.int .i64 ((op:Nat):Int), .int .u64 ((A:Nat):Int), .int .u64 ((B:Nat):Int)]::Vr m (mV x s y)::Row s eVV y.stk::R2) (cJ.trans (H':=Cl cuZ (x.cs.zip cb)::Row sv eSV rw::Cl lnH zs::Vr b4 [z1.val,z2.val, .int .i64 n.slop]::Vr b3 [.int .i64 ((op:Nat):Int), .int .u64 ((A:Nat):Int), .int .u64 ((B:Nat):Int)]::Vr m (mV x s y)::Row s eVV y.stk::R2) (hsb) (qm hzc)) ?_
  refine c1_ rfl (A1 (c:=c) hgc.1) (k:=?_)
  rintro _ _ ⟨s57,rfl,rfl⟩
  refine gz eSV (k:=fun s58=>?_)
  refine app (k:=fun s59=>?_)
  refine e_ asn (k:=on_ (bn_ (qn_ (wr_ (?_)))))
  refine du (H':=Cl cuZ (x.cs.zip (cb.set kn (ln c)))::Row s59 eSV (rw++ [s57])::Cl lnH (zs++ [(s57,eV c)])::Vr b4 [z1.val,z2.val, .int .i64 n.slop]::Vr b3 [.int .i64 ((op:Nat):Int), .int .u64 ((A:Nat):Int), .int .u64 ((B:Nat):Int)]::Vr m (mV x s y)::Row s eVV y.stk::R2) (by rw[←jy hb];exact cJ.trans (H':=CuH b (ln c)::Cl cuZ ((x.cs.zip cb).take kn)::Cl cuZ ((x.cs.zip cb).drop (kn+1))::Row s57 eI (cV (eV c))::Cl lnH zs::Row s59 eSV (rw++ [s57])::Vr b4 [z1.val,z2.val, .int .i64 n.slop]::Vr b3 [.int .i64 ((op:Nat):Int), .int .u64 ((A:Nat):Int), .int .u64 ((B:Nat):Int)]::Vr m (mV x s y)::Row s eVV y.stk::R2) (hsb) ((jD hzcl).trans (cJ.trans (H':=Row s57 eI (cV (eV c))::Cl lnH zs::Cl cuZ ((x.cs.zip cb).set kn (b,ln c))::Row s59 eSV (rw++ [s57])::Vr b4 [z1.val,z2.val, .int .i64 n.slop]::Vr b3 [.int .i64 ((op:Nat):Int), .int .u64 ((A:Nat):Int), .int .u64 ((B:Nat):Int)]::Vr m (mV x s y)::Row s eVV y.stk::R2) (hsb) ((C3 (s57,eV c)).trans (hsb))))) ?_
  refine go ?_
  refine ln_ ((i2+1,cb.set kn (ln c),zs++ [(s57,eV c)],s59,rw++ [s57])) (k:=?_)
  try dsimp only
  exact⟨aa,by rw[List.length_set];exact hbl,GY hbg (No hgc),by rw[Ya,hzl2];all_goals rfl,by rw[List.map_append,hrw];all_goals rfl,by rw[List.map_append,List.map_append,List.sum_append,Nat.add_mul];simp only[List.map_cons,List.map_nil,List.sum_cons,List.sum_nil];omega,by rw[htell];simp⟩
 obtain rfl:i2=n.cs.length:=aa
 rw[List.drop_length,jV,Ym]at htell
 rw[htell];dsimp only
 refine go ?_
 refine d3_ rfl (xG (ss:=rw) (lists:=zs.map (·.2)) (offs:=n.offs) (slop:=n.slop) hS hC (by rw[hrw,Yh,Yh]) (fun i s l h1 h2=> MJ (hrw ▸ h1) h2 (fun z hz=> by haveI:∀R,Sl (Cl lnH zs::R) z.1 eI (cV z.2):=fun R=> Lp (List.mem_iff_getElem?.1 hz).choose_spec (fun R=> (inferInstance:Sl (Row z.1 eI (cV z.2)::R) z.1 eI (cV z.2)));infer_instance)) (bW) (bW) (bW) hob hsl1 (aa) (aa)) (k:=gk (k:=wi_ (k:=fun h4=>?_) (m:=fun h4=>?_)))
 ·have hf0:jW (zs.map (·.2)) n.offs n.slop=0:=by have h9:=h4;omega
  rw[if_pos hf0]
  refine ws_ (wr_ (e_ mv (k:=e_ (bld []) (k:=?_))))
  refine d2_ rfl (oX (x:=x) (y:=y) (s:=s) (a:=false) (v:=0) hl) (k:=gk (k:=rt_ Tryz.results81 (k:=?_)))
  exact⟨_,hsb,rfl,rfl⟩
 have hf0:¬jW (zs.map (·.2)) n.offs n.slop=0:=by have h9:=h4;omega
 rw[if_neg hf0]
 obtain⟨k0,hk0⟩:∃k,n.cs[0]? =some k:=⟨_,Yi (aa)⟩
 obtain⟨kb1,kb2⟩:=hkb k0 (Yj hk0)
 obtain⟨kn,rfl⟩:∃kn:Nat,k0=((kn:Nat):Int):=⟨k0.toNat,aa⟩
 obtain⟨⟨fd,ky⟩,hfk⟩:∃z,p.curs[kn]? =some z:=⟨_,Yi (aa)⟩
 obtain⟨hf1,hf2⟩:=hk.fd _ (Yj hfk)
 simp only at hf1 hf2
 obtain⟨fn,rfl⟩:∃n:Nat,fd=((n:Nat):Int):=⟨fd.toNat,aa⟩
 have hhd:n.cs.headD 0=((kn:Nat):Int):=by rw[List.headD_eq_head?_getD,List.head?_eq_getElem?,hk0];all_goals rfl
 have hfo:ou (cS p q ins) (n.cs.headD 0).toNat=((fn:Nat):Int):=by rw[hhd,Int.toNat_natCast,ou];show(match p.curs[kn]? with|some x=> x.1|none=> 0)=_;rw[hfk]
 rw[hfo]
 refine go ?_
 refine df cI (fun i=> [17,18].contains i) (fun k H=> (k=3→cQ H b3 [.int .i64 ((op:Nat):Int), .int .u64 ((A:Nat):Int), .int .u64 ((B:Nat):Int)])∧(k=9→MoP H m x)∧(k=11→cQ H b4 [z1.val,z2.val, .int .i64 n.slop])∧(k=12→Sl H z1 eI n.cs)∧(k=13→Sl H z1 eI n.cs)∧(k=14→Sl H x.pa.cu eLf p.curs)∧(k=15→Sl H x.pa.cu eLf p.curs)∧(k=16→Sl H x.pa.cu eLf p.curs)) (af_ 0 (q:=cD fun H hH=>mv) (k:=af_ 1 (q:=cD fun H hH=>mv) (k:=af_ 2 (q:=cD fun H hH=>fla) (k:=?_))))
 refine cE 3 rfl rfl (a8) rfl (cD fun H hH=>ak) (?_)
 refine af_ 4 (q:=cD fun H hH=>mv) (k:=af_ 5 (q:=cD fun H hH=>mv) (k:=af_ 6 (q:=cD fun H hH=>nck) (k:=af_ 7 (q:=cD fun H hH=>fla) (k:=af_ 8 (q:=cD fun H hH=>fla) (k:=?_)))))
 refine cE 9 rfl rfl (a8) rfl (cD fun H hH=>by have hN:=hH.2.1 rfl;exact B0 (x:=x) m fun s y R=> ldv) (?_)
 refine af_ 10 (q:=cD fun H hH=>fla) (k:=?_)
 refine cE 11 rfl rfl (a8) rfl (cD fun H hH=>aF) (?_)
 refine cE 12 rfl rfl (a8) rfl (cD fun H hH=>by have hN:=hH.2.2.2.1 rfl;exact ixa (i:=0)) (?_)
 refine cE 13 rfl rfl (a8) rfl (cD fun H hH=>by have hN:=hH.2.2.2.2.1 rfl;exact lel (hy:=hk0)) (?_)
 refine cE 14 rfl rfl (a8) rfl (cD fun H hH=>by have hN:=hH.2.2.2.2.2.1 rfl;exact ixa) (?_)
 refine cE 15 rfl rfl (a8) rfl (cD fun H hH=>by have hN:=hH.2.2.2.2.2.2.1 rfl;exact fle) (?_)
 refine cE 16 rfl rfl (a8) rfl (cD fun H hH=>by have hN:=hH.2.2.2.2.2.2.2 rfl;exact lfl (hy:=hfk)) (?_)
 refine cN 17 rfl (a8) rfl (fun k hk=> ⟨fun hi=> ab,fun hi=> ab,fun hi=> ab,fun hi=> ab,fun hi=> ab,fun hi=> ab,fun hi=> ab,fun hi=> ab⟩) (cW (vs:= [_,_,_,_]) rfl (Bx (x:=x) (y:=y) (s:=s) (p:=p) (q:=q) (ins:=ins) (w:=B) (f:=jW (zs.map (·.2)) n.offs n.slop) (k:=fn) hpl (aa) (aa) hd hk.ap hB)) ?_
 rintro _ _ ⟨rfl,rfl⟩
 refine cN 18 rfl (a8) rfl (fun k hk=> ⟨fun hi=> absurd hk (ad),fun hi=> ab,fun hi=> ab,fun hi=> ab,fun hi=> ab,fun hi=> ab,fun hi=> ab,fun hi=> absurd hk (ad)⟩) (cW (vs:= [_,_]) rfl (oX (x:=x) (y:=y) (s:=s) hl)) ?_
 rintro _ _ ⟨rfl,rfl⟩
 refine db (a8) (fun k hk=> ⟨fun hi=> absurd hk (ad),fun hi=> ab,fun hi=> ab,fun hi=> ab,fun hi=> ab,fun hi=> ab,fun hi=> ab,fun hi=> absurd hk (ad)⟩) (rt_ Tryz.results81 (k:=?_))
 exact⟨_,hsb,rfl,rfl⟩
end
def MD:List Nat:= [75,76,78,79,80,81,82,85,87,89,91,93,95,96,97,98,101]
section
variable {G:cK}{H R R2:cG}{m op A B d T:Nat}{x:MX}{y:MY}{p:PrG}{q:PtD}{ins:List Ins}{cs:List CuS}
structure HV (p:PrG) (op A B h:Nat):Prop where
 opl:op≤16
 eff:∃h',iW (op,A,B) h=some h'
 oper:p9 p (op,A,B)=true
 a:A<18446744073709551616
 b:B<18446744073709551616
 jmp:op=15∨op=16→A≤1000000000
structure HO (p:PrG) (q:PtD) (T:Nat) (cs:List CuS):Prop where
 q:Bj q
 tot:∀c∈cs,dg c.ps≤T
 near:∀n∈p.nears,gl p n=true∧n.cs.length*T≤1000000000000∧n.cs.length≤100000000
 nn:p.nears.length≤1000000000
theorem tOp [hr:Rem H Mo m (x,y) R] [hc:Rem R Cl cuZ (x.cs.zip cs) R2] [hsc:Sl R2 x.cu ePt (x.cs.map fun b=> (b,0))] [hg:Glb G R2] [hpt:dq R2 x.pt q] [hpr:gE R2 x.pa p] (hS:jS) (hC:fg) (hk:MOk x p q cs) (hro:HO p q T cs) (hi:HV p op A B y.stk.length) (hpl:y.pl=((d:Nat):Int)) (hd:d<q.ds.length) (hl:y.stk.length≤1000000000) (hpc:y.pc≤1000000000):
 SC G Tryz.prog (MD.getD op 0) [.pointer (some ⟨m,0,none⟩),nw op A B] H (fun v H'=> v= .tuple #[]∧H'=Mo m (x,{y with stk:=(opV (cS p q ins) d (op,A,B) y.pc y.stk cs).2.1,pc:=(opV (cS p q ins) d (op,A,B) y.pc y.stk cs).1})::Cl cuZ (x.cs.zip (opV (cS p q ins) d (op,A,B) y.pc y.stk cs).2.2)::R2):=by
 refine SC.less (cJ.rem hr (cJ.rem hc cJ.refl).keep) ?_
 obtain⟨hop,⟨h',he⟩,hoo,hA,hB,hj⟩:=hi
 have hav:=hk.av
 have hcu:=hk.cu
 match op,hop with
 | 0,_=> exact tO1
 | 1,_=> exact tO2 hl
 | 2,_=> exact tO3 hl
 | 3,_=> exact O0 hpl (by have:=Yt hoo;simp only at this;omega) hro.q hd hl
 | 4,_=> exact Lz hk hpl (by have:=Yt hoo;simp only at this;omega) hB hd hl
 | 5,_=>
  have hAl:A<p.nears.length:=Yt hoo
  obtain⟨h1,h2,h3⟩:=hro.near _ (List.getElem_mem hAl)
  exact EU hS hC hk hpl (Yi hAl) h1 hro.tot h2 h3 hro.nn hB hd hl
 | 6,_=> exact tO6 (aJ) hl
 | 7,_=> exact tO7 (aJ) hl
 | 8,_=> exact tO8 (aJ) hl
 | 9,_=> exact tO9 (aJ) hl
 | 10,_=> exact PW (aJ) hl
 | 11,_=> exact PV (aL) hl
 | 12,_=> exact PU (aL) hl
 | 13,_=> exact PY (aL) hl
 | 14,_=> exact LU (by simp only[iW]at he;split at he;cases he;omega) hB hl
 | 15,_=> exact PT (aL) hl (hj (.inl rfl)) hpc
 | 16,_=> exact PS (aL) hl (hj (.inr rfl)) hpc
 |k+17,hk9=> exact absurd hk9 (aa)
end
theorem Iz {G:cK}{H R:cG}{b:Nat}{c:CuS} [hr:Rem H CuH b c R]:SC G Tryz.prog 64 [.pointer (some ⟨b,0,none⟩)] H (fun v H'=> v= .int .i64 ((c.mv:Nat):Int)∧H'=CuH b c::R):=
 ⟨(BC (G:=G) (H:= [Vr b [.int .i64 0, .int .i64 0]]) (b:=b) (d:=0) (m:=0) (l:= [])).enter,fun w hw=> by
   obtain⟨x,hx,hs⟩:=wm hr hw
   exact(SC.out ((BC (G:=G) (b:=b)).mono (fun v H' h=> ⟨_,by rw[h.2];exact m6 hx,h.1,rfl⟩))).call w hs⟩
section
variable {G:cK}{H R R2:cG}{m:Nat}{x:MX}{y:MY}{p:PrG}{q:PtD}{cs:List CuS}
theorem IJ [hr:Rem H Mo m (x,y) R] [hc:Rem R Cl cuZ (x.cs.zip cs) R2] [hsc:Sl R2 x.cu ePt (x.cs.map fun b=> (b,0))] (hk:MOk x p q cs):SC G Tryz.prog 29 [.pointer (some ⟨m,0,none⟩)] H (fun v H'=> v= .tuple #[.int .i64 ((y.st:Nat):Int), .int .i64 (((cs.map (·.mv)).sum:Nat):Int), .int .i64 ((y.vi:Nat):Int)]∧H'=Mo m (x,y)::Cl cuZ (x.cs.zip cs)::R2):=by
 have hcl:=hk.cl
 have hcn:=hk.n
 refine SC.less (cJ.rem hr (cJ.rem hc cJ.refl).keep) ?_
 refine nN (m:=m) (x:=x) (y:=y) (R:=Cl cuZ (x.cs.zip cs)::R2) inferInstance (fun s=> ?_)
 have hlm:(x.cs.map fun b=> ((b,0):Nat×Nat)).length=cs.length:=by rw[Yh,hcl]
 refine sWk Tryz.func29 Tryz.ntmps29 ?_
 refine go ?_
 refine gk (k:=dt (Nat×Nat) (fun y=> y.1≤cs.length∧y.2=((cs.take y.1).map (·.mv)).sum∧y.2≤y.1*100100001) (fun y=> [(5, .int .i64 ((y.2:Nat):Int)),(13, .int .i64 ((y.1:Nat):Int))]) [(0,_),(11,_),(12,_)] (fun y=> []) _ (fun y=> cs.length - y.1) ((0,0)) (h0:=?_) (k:=?_))
 ·try dsimp only
  exact⟨Yl _,rfl,Yl _⟩
 rintro⟨i,w⟩ ⟨hi,hw,hwb⟩
 try dsimp only[Yd,Ye]at*
 refine gk (k:=wi_ (k:=fun h1=>?_) (m:=fun h1=>?_))
 ·obtain⟨b,hb⟩:∃b,x.cs[i]? =some b:=⟨_,Yi (aa)⟩
  obtain⟨c,hcA⟩:∃c,cs[i]? =some c:=⟨_,Yi (aa)⟩
  have hbp:(x.cs.map fun b=> ((b,0):Nat×Nat))[i]? =some ((b,0):Nat×Nat):=by rw[Xd,hb];all_goals rfl
  have hmv:=(hk.ok c (Yj hcA)).mvle
  have hzc:=lB hb hcA
  have hzcl:=(Yk.1 hzc).1
  have hset:cs.set i c=cs:=by rw[←(Yk.1 hcA).2,List.set_getElem_self]
  refine wk_ (qn_ (ws_ (wb_ (ws_ (wr_ (e_ ixa (k:=e_ (lel (hy:=hbp)) (k:=go ?_))))))))
  refine go ?_
  refine du (H':=CuH b c::Cl cuZ ((x.cs.zip cs).take i)::Cl cuZ ((x.cs.zip cs).drop (i+1))::Vr m (mV x s y)::Row s eVV y.stk::R2) (cJ.trans (H':=Cl cuZ (x.cs.zip cs)::Vr m (mV x s y)::Row s eVV y.stk::R2) (hsb) (qm hzc)) ?_
  refine d1_ rfl (Iz (c:=c)) (k:=e_ iad (k:=e_ asn (k:=on_ (bn_ (qn_ (wr_ (?_)))))))
  refine du (H':=Cl cuZ (x.cs.zip cs)::Vr m (mV x s y)::Row s eVV y.stk::R2) ((jD hzcl).trans (by rw[jy hb,hset];exact hsb)) ?_
  refine go ?_
  refine ln_ ((i+1,w+c.mv)) (k:=?_)
  try dsimp only
  exact⟨aa,by rw[cP hcA,List.map_append,List.sum_append,←hw];simp,bf⟩
 obtain rfl:i=cs.length:=aa
 rw[List.take_length]at hw
 refine go ?_
 refine df cI (fun i=> [].contains i) (fun k H=> (k=3→cQ H m (mV x s y))∧(k=8→cQ H m (mV x s y))) (af_ 0 (q:=cD fun H hH=>mv) (k:=af_ 1 (q:=cD fun H hH=>nck) (k:=af_ 2 (q:=cD fun H hH=>fla) (k:=?_))))
 refine cE 3 rfl rfl (a8) rfl (cD fun H hH=>ak) (?_)
 refine af_ 4 (q:=cD fun H hH=>mv) (k:=af_ 5 (q:=cD fun H hH=>mv) (k:=af_ 6 (q:=cD fun H hH=>nck) (k:=af_ 7 (q:=cD fun H hH=>fla) (k:=?_))))
 refine cE 8 rfl rfl (a8) rfl (cD fun H hH=>aE) (?_)
 refine af_ 9 (q:=cD fun H hH=>asn) (k:=af_ 10 (q:=cD fun H hH=>asn) (k:=af_ 11 (q:=cD fun H hH=>asn) (k:=db (a8) (fun k hk=> ⟨fun hi=> ab,fun hi=> ab⟩) (gk (k:=rt_ Tryz.results29 (k:=?_))))))
 rw[←hw];exact⟨_,cJ.trans (H':=Vr m (mV x s y)::Row s eVV y.stk::Cl cuZ (x.cs.zip cs)::R2) (hsb) jB,rfl,rfl⟩
end
theorem CC:∀(n:Nat) (l vs r:List Nat),(∀x∈l,x<256)→n6 n l=some (vs,r)→(∀v∈vs,v<18446744073709551616)∧(∀x∈r,x<256)∧r.length≤l.length
 | 0,l,vs,r,hb,h=> by cases h;exact⟨an,hb,Nat.le_refl _⟩
 |n+1,l,vs,r,hb,h=> by
  rw[n6]at h
  split at h
  ·cases h
  ·rename_i v m hv
   obtain⟨p1,p2,p3,p4,p5,p6⟩:=j5 l 0 v m hb (aa) hv
   split at h
   ·cases h
   ·rename_i ws r2 hr2
    cases h
    obtain⟨q1,q2,q3⟩:=CC n _ _ _ (fun x hx=> hb x (Yp hx)) hr2
    refine⟨fun x hx=> ?_,q2,by rw[Yo]at q3;omega⟩
    rcases List.mem_cons.1 hx with rfl|hx
    ·exact p1
    ·exact q1 x hx
theorem Ce {vs:List Nat}{M:Nat}(h:∀v∈vs,v<M) (hM:0<M) (i:Nat):vs.getD i 0<M:=by
 rw[List.getD_eq_getElem?_getD]
 cases hc:vs[i]? with
 |none=> exact hM
 |some q=> exact h q (Yj hc)
theorem x7:∀(n:Nat) (l:List Nat) (xs:List Ins),(∀x∈l,x<256)→lq n l=some xs→(∀x∈xs,x.2.1<18446744073709551616∧x.2.2<18446744073709551616)∧xs.length≤l.length
 | 0,l,xs,hb,h=> by cases h;exact⟨an,Yl _⟩
 |n+1, [],xs,hb,h=> by cases h;exact⟨an,Yl _⟩
 |n+1,op::l,xs,hb,h=> by
  rw[lq]at h
  split at h
  ·cases h
  ·rename_i m hm
   split at h
   ·cases h
   ·rename_i vs r hv
    obtain⟨q1,q2,q3⟩:=CC m _ _ _ (fun x hx=> hb x (by simp[hx])) hv
    split at h
    ·cases h
    ·rename_i ys hy
     cases h
     obtain⟨s1,s2⟩:=x7 n _ _ q2 hy
     refine⟨fun x hx=> ?_,by simp only[Yb];omega⟩
     rcases List.mem_cons.1 hx with rfl|hx
     ·exact⟨Ce q1 (ag) 0,Ce q1 (ag) 1⟩
     ·exact s1 x hx
theorem Qq {p:PrG}{code:List Ins}{f i h0:Nat}{tb:Hs}{x:Ins}(hx:code.getD i (0,0,0)=x) (hh:tb.getD i none=some h0):jM p code (f+1) i tb=(match iW x h0 with
 |none=> none
 |some h=> if decide (i+1=code.length)=decide (x.1=0)∧p9 p x=true then
  if i+1=code.length then some tb else
  match jC tb (i+1) h with
  |none=> none
  |some tb1=> if pg x=true then
   if code.length - 2 - i<x.2.1 then none else
   match jC tb1 (i+1+x.2.1) h with
   |none=> none
   |some tb2=> jM p code f (i+1) tb2
   else jM p code f (i+1) tb1
  else none):=by rw[jM,hx,hh];all_goals rfl
theorem Kk {x:Ins}{h:Nat}{v:Value}(he:NL x h v):∃(k:Int) (b:Bool),(b=true→∃h':Nat,iW x h=some h'∧k=((h':Nat):Int))∧(b=false→iW x h=none)∧v= .tuple #[.int .i64 k, .bool b]:=by
 rcases he with⟨h',h1,h2⟩|⟨h1,k,h2⟩
 ·exact⟨_,true,fun _=> ⟨h',h1,rfl⟩,fun h=> (aW),h2⟩
 ·exact⟨k,false,fun h=> (aW),fun _=> h1,h2⟩
theorem F5 {G:cK}{H:cG}{op A B h:Nat}(hh:h≤1000000000) (hA:A<18446744073709551616):SC G Tryz.prog 127 [.agg [.int .i64 ((op:Nat):Int), .int .u64 ((A:Nat):Int), .int .u64 ((B:Nat):Int)].toArray, .int .i64 ((h:Nat):Int)] H (fun v H'=> (∃(k:Int) (b:Bool),(b=true→∃h':Nat,iW (op,A,B) h=some h'∧k=((h':Nat):Int))∧(b=false→iW (op,A,B) h=none)∧v= .tuple #[.int .i64 k, .bool b])∧H'=H):=
 (IF hh hA).mono (fun _ _ h=> ⟨Kk h.1,h.2⟩)
theorem Kj {x:Ins}{h h':Nat}(he:iW x h=some h'):h'≤h+1:=by
 obtain⟨op,A,B⟩:=x
 by_cases h1:1≤op∧op≤5
 ·rw[Lo h1.1 h1.2]at he;cases he;exact Nat.le_refl _
 by_cases h2:6≤op∧op≤10
 ·rw[Hk h2.1 h2.2]at he;split at he;cases he;omega;cases he
 by_cases h3:op=14
 ·subst h3;simp only[iW]at he;split at he;cases he;cases he;omega
 by_cases h4:op=0
 ·subst h4;simp only[iW]at he;split at he;cases he;omega;cases he
 ·rw[P5 h4 (aa) h3]at he;split at he;cases he;omega;cases he
theorem yx {tb tb':Hs}{i h:Nat}(he:jC tb i h=some tb') (hi:i<tb.length):tb'.getD i none=some h∧∀j k,tb'.getD j none=some k→k=h∨tb.getD j none=some k:=by
 unfold jC at he
 split at he
 ·cases he
  refine⟨u7 hi,fun j k hk=> ?_⟩
  rw[List.getD_eq_getElem?_getD,List.getElem?_set]at hk
  by_cases hij:i=j
  ·subst hij
   rw[if_pos rfl,if_pos hi]at hk
   left;exact(Option.some.inj hk).symm
  ·rw[if_neg hij,←List.getD_eq_getElem?_getD]at hk
   right;exact hk
 ·rename_i k hk
  split at he
  ·rename_i hkh;cases he;subst hkh;exact⟨hk,fun j k h=> .inr h⟩
  ·cases he
theorem Dh {tb tb':Hs}{i h j k:Nat}(he:jC tb i h=some tb') (hj:tb.getD j none=some k):tb'.getD j none=some k:=by
 unfold jC at he
 split at he
 ·rename_i hn
  cases he
  rw[List.getD_eq_getElem?_getD,List.getElem?_set,if_neg (by rintro rfl;rw[hn]at hj;cases hj),←List.getD_eq_getElem?_getD];exact hj
 ·split at he
  ·cases he;exact hj
  ·cases he
theorem JO {n j h:Nat}(hh:(hs0 n).getD j none=some h):h=0:=by
 rw[hs0,List.getD_eq_getElem?_getD,List.getElem?_set]at hh
 split at hh
 ·split at hh
  ·cases hh;rfl
  ·cases hh
 ·rw[List.getElem?_replicate]at hh
  split at hh <;> cases hh
theorem I3 {ys:List Int}{n:Nat}(hl:ys.length=n) (hy:∀j,j<n→ys[j]? =some (-1)):ys=hsI (List.replicate n none):=by
 apply List.ext_getElem?
 intro j
 rw[Xd,List.getElem?_replicate]
 by_cases hj:j<n
 ·rw[hy j hj,if_pos hj];all_goals rfl
 ·rw[List.getElem?_eq_none (aa),if_neg hj];all_goals rfl
theorem JN {n:Nat}:(hsI (List.replicate n none)).set 0 0=hsI (hs0 n):=C9 (h:=0)
theorem Gr {op A B:Nat}(h:op=15∨op=16):pg (op,A,B)=true:=by rcases h with rfl|rfl <;> rfl
theorem MM {op A B:Nat}(h:¬(op=15∨op=16)):pg (op,A,B)=false:=by
 rw[pg];simp only[Yr (show ¬op=15 from aa),Yr (show ¬op=16 from aa),Bool.or_self]
theorem yD {i n op:Nat}(hn:i<n):(decide (((i:Nat):Int)=((n:Nat):Int) - 1) !=decide (((op:Nat):Int)=0))= !decide (decide (i+1=n)=decide (op=0)):=by
 rw[show decide (((i:Nat):Int)=((n:Nat):Int) - 1)=decide (i+1=n)from decide_eq_decide.2 (aa),show decide (((op:Nat):Int)=0)=decide (op=0)from decide_eq_decide.2 (aa)]
 all_goals (cases decide (i+1=n) <;> cases decide (op=0) <;> rfl)
theorem EY {G:cK}{H:cG}{a:PrA}{p:PrG} [hg:Glb G H] [hia:Isa H] [hp:gE H a p] [hpc:qA H a p] (hps:HS p):SC G Tryz.prog 73 [.agg (prV a p.all).toArray] H (fun v H'=> (gD p=none∧v= .tuple #[.slice none 0 0, .int .i64 0]∧H'=H)∨(∃(tb:Hs) (sl:SV) (most:Int),gD p=some tb∧0<tb.length∧v= .tuple #[sl.val, .int .i64 most]∧H'=Row sl eI (hsI tb)::H)):=by
 have hk1:=hps.k
 have hs1:=hps.a
 have hs2:=hps.c
 have hs3:=hps.n
 refine sWk Tryz.func73 Tryz.ntmps73 ?_
 refine gk (k:=bxx (k:=fun b1=>?_))
 refine go ?_
 refine c1_ rfl (BF hps.k hps.cb) (k:=?_)
 rintro _ _ (⟨hdn,rfl,rfl⟩|⟨sc,code,hdc,rfl,rfl⟩)
 ·have hno:gD p=none:=by rw[gD,lr,hdn]
  refine e_ mv (k:=e_ exr (k:=e_ exr (k:=e_ asn (k:=e_ asn (k:=on_ (qn_ (ws_ (ws_ (wr_ (e_ mv (k:=?_)))))))))))
  refine e_ (cZ rfl) (k:=?_)
  refine gk (k:=ift (k:=go ?_))
  refine gk (k:=rt_ Tryz.results73 (k:=?_))
  exact⟨_,hsb, .inl ⟨hno,rfl,rfl⟩⟩
 obtain⟨hlt,hcl⟩:=x7 _ _ _ hps.cb hdc
 have hcp:gD p=if code.length=0∨ie p=false then none else jM p code code.length 0 (hs0 code.length):=by rw[gD,lr,hdc]
 refine e_ mv (k:=e_ exr (k:=e_ exr (k:=e_ asn (k:=e_ asn (k:=on_ (qn_ (ws_ (ws_ (wr_ (e_ mv (k:=?_)))))))))))
 refine e_ (cM rfl) (k:=?_)
 refine gk (k:=dN 4 32 (k:=fun h1=>gk (k:=kK (vs:=[_]) (hc:=(Ir hps)) (k:=gk (k:=edq)))) (q:=gk (k:=wi_ (k:=fun h2=>?_) (m:=fun h2=>?_))))
 ·have hno:gD p=none:=by rw[hcp,if_pos (aO)]
  refine gk (k:=rt_ Tryz.results73 (k:=?_))
  exact⟨_,hsb, .inl ⟨hno,rfl,rfl⟩⟩
 have hyes:gD p=jM p code code.length 0 (hs0 code.length):=by rw[hcp,if_neg (aO)]
 have hn0:0<code.length:=aQ
 have hrp:(List.replicate code.length (0:Int)).length=code.length:=Xe
 refine go ?_
 refine s_ (eX eI 0 rfl rfl _ _ rfl rfl rfl (aa) (aa) (aa)) (k:=?_)
 rintro _ _ ⟨s35,rfl,hs35n,hs35c,rfl⟩
 refine alc (k:=fun b6=>?_)
 refine gk (k:=dt (Nat×(List Int)) (fun y=> y.1≤code.length∧y.2.length=code.length∧∀j,j<y.1→y.2[j]? =some (-1)) (fun y=> [(38, .int .i64 ((y.1:Nat):Int))]) [(1,_),(4,_),(6,_),(37,_)] (fun y=> [Row s35 eI y.2]) _ (fun y=> code.length - y.1) ((0,List.replicate code.length 0)) (h0:=?_) (k:=?_))
 ·try dsimp only
  exact⟨Yl _,Xe,fun j hj=> absurd hj (Nat.not_lt_zero j)⟩
 rintro⟨i,ys⟩ ⟨hi,hyl,hyj⟩
 try dsimp only[Yd,Ye]at*
 refine gk (k:=wi_ (k:=fun h3=>?_) (m:=fun h3=>?_))
 ·refine go ?_
  refine s_ (dH (a:=(-1:Int)) rfl rfl (bQ) (aa)) (k:=?_)
  rintro _ _ ⟨rfl,rfl⟩
  refine go ?_
  refine ln_ ((i+1,ys.set i (-1))) (k:=?_)
  try dsimp only
  exact⟨aa,by rw[List.length_set];exact hyl,fun j hj=> by
   rw[List.getElem?_set]
   by_cases hij:i=j
   ·subst hij;rw[if_pos rfl,if_pos (aa)]
   ·rw[if_neg hij];exact hyj j (aa)⟩
 obtain rfl:ys=hsI (List.replicate code.length none):=I3 hyl (fun j hj=> hyj j (cj))
 refine we_ (qe_ (le_ (bh_ (qn_ (ws_ (wr_ (e_ ldv (k:=e_ (ixa (i:=0)) (k:=?_)))))))))
 refine s_ (dH (i:=0) (a:=(0:Int)) rfl rfl (bQ) (aa)) (k:=?_)
 rintro _ _ ⟨rfl,rfl⟩
 rw[JN]
 refine on_ (qn_ (ws_ (wr_ (e_ asn (k:=on_ (qn_ (ws_ (wr_ (e_ mkf (k:=go ?_))))))))))
 refine gk (k:=dt (Nat×Hs×Int×Nat) (fun y=> y.1<code.length∧y.2.1.length=code.length∧gD p=jM p code (code.length - y.1) y.1 y.2.1∧y.2.1.getD y.1 none=some y.2.2.2∧∀j k,y.2.1.getD j none=some k→k≤y.1) (fun y=> [(8, .int .i64 y.2.2.1),(50, .int .i64 ((y.1:Nat):Int))]) [(1,_),(4,_),(6,_),(9,_),(48,_),(49,_)] (fun y=> [Row s35 eI (hsI y.2.1)]) _ (fun y=> code.length - y.1) ((0,hs0 code.length,0,0)) (h0:=?_) (k:=?_))
 ·try dsimp only
  exact⟨hn0,by rw[hs0,List.length_set,Xe],by rw[Nat.sub_zero];exact hyes,by rw[hs0];exact u7 (by rw[Xe];exact hn0),fun j k hk=> by rw[JO hk];exact Nat.le_refl _⟩
 rintro⟨i,tb,most,h0⟩ ⟨hi2,htl,hck,hh0,hkb⟩
 try dsimp only[Yd,Ye]at*
 refine gk (k:=wi_ (k:=fun h4=>?_) (m:=fun h4=>?_))
 ·obtain⟨x,hx⟩:∃x,code[i]? =some x:=⟨_,Yi (aa)⟩
  have hxl:=hlt x (Yj hx)
  have hgx:code.getD i (0,0,0)=x:=by rw[List.getD_eq_getElem?_getD,hx];all_goals rfl
  obtain⟨op,A,B⟩:=x
  obtain⟨hA,hB⟩:=hxl
  simp only at hA hB
  have hh0i:=hkb i h0 hh0
  have hrow:(hsI tb)[i]? =some ((h0:Nat):Int):=(sB (aa)).trans (by rw[hh0,ohI])
  have hck1:=hck
  rw[show code.length - i=(code.length - (i+1))+1 from aa,Qq hgx hh0]at hck1
  have hrl:(hsI tb).length=code.length:=by rw[Yh];exact htl
  refine wk_ (qn_ (ws_ (wb_ (ws_ (wr_ (e_ mv (k:=e_ ixa (k:=e_ (jn (hy:=hx)) (k:=alc (k:=fun b11=>?_))))))))))
  refine e_ asn (k:=sto (k:=on_ (qn_ (ws_ (wr_ (?_))))))
  dsimp only
  refine go ?_
  refine df cI (fun i=> [5].contains i) (fun k H=> (k=0→cQ H b11 [.int .i64 ((op:Nat):Int), .int .u64 ((A:Nat):Int), .int .u64 ((B:Nat):Int)])∧(k=1→cQ H b6 [s35.val])∧(k=3→Sl H s35 eI (hsI tb))∧(k=4→Sl H s35 eI (hsI tb))) (?_)
  refine cE 0 rfl rfl (a8) rfl (cD fun H hH=>bH) (?_)
  refine cE 1 rfl rfl (a8) rfl (cD fun H hH=>ar) (?_)
  refine af_ 2 (q:=cD fun H hH=>mv) (k:=?_)
  refine cE 3 rfl rfl (a8) rfl (cD fun H hH=>aV) (?_)
  refine cE 4 rfl rfl (a8) rfl (cD fun H hH=>by have hN:=hH.2.2.2 rfl;exact lel (hy:=hrow)) (?_)
  refine cN 5 rfl (a8) rfl (fun k hk=> ⟨fun hi=> ab,fun hi=> ab,fun hi=> ab,fun hi=> ab⟩) (cW (vs:= [_,_]) rfl (F5 (op:=op) (A:=A) (B:=B) (h:=h0) (aa) hA)) ?_
  rintro _ _ ⟨⟨kk,bb,hbt,hbf,rfl⟩,rfl⟩
  refine af_ 6 (q:=cD fun H hH=>mv) (k:=af_ 7 (q:=cD fun H hH=>exr) (k:=af_ 8 (q:=cD fun H hH=>exr) (k:=af_ 9 (q:=cD fun H hH=>asn) (k:=af_ 10 (q:=cD fun H hH=>asn) (k:=db (a8) (fun k hk=> ⟨fun hi=> absurd hk (ad),fun hi=> ab,fun hi=> ab,fun hi=> absurd hk (ad)⟩) (qn_ (ws_ (ws_ (wr_ (e_ mv (k:=e_ k8 (k:=e_ mv (k:=dN 6 77 (k:=fun h5=>eg_ mv (k:=eg_ fla (k:=eg_ ldv (k:=eg_ ieq (k:=eg_ (o4 rfl rfl) (k:=e_ pkf (k:=on_ (edq)))))))) (q:=?_))))))))))))))
  refine gk (k:=dN 5 83 (k:=fun h6=>gk (k:=kK (vs:=[_,_]) (hc:=(CS (p:=p) hA hB ⟨hs1,hs2,hs3⟩)) (k:=gk (k:=edq)))) (q:=gk (k:=wi_ (k:=fun h7=>?_) (m:=fun h7=>?_))))
  ·have hno:gD p=none:=by
    have h9:=h7
    cases hb9:bb with
    |false=> rw[hbf hb9]at hck1;exact hck1
    |true=>
     obtain⟨h',he,rfl⟩:=hbt hb9
     rw[he]at hck1;simp only at hck1
     rw[if_neg]at hck1
     ·exact hck1
     ·rintro⟨c1,c2⟩
      rw[yD hi2,Ys c1,c2,hb9]at h9
      rcases h9 with(h9|h9)|h9
      ·exact absurd h9 (ag)
      ·exact absurd h9 (ag)
      ·exact absurd h9 (ag)
   refine gk (k:=rt_ Tryz.results73 (k:=?_))
   exact⟨_,hsb, .inl ⟨hno,rfl,rfl⟩⟩
  have hq:=h7
  obtain rfl:bb=true:=by
   cases hb9:bb with
   |false=> rw[hb9]at hq;exact absurd hq.1.1 (ag)
   |true=> rfl
  obtain⟨h',he,rfl⟩:=hbt rfl
  have hle:=Kj he
  rw[he]at hck1;simp only at hck1
  rw[if_pos ⟨by have h9:=hq.1.2;rw[yD hi2]at h9;simpa using h9,hq.2⟩]at hck1
  refine wk_ (qn_ (ws_ (wr_ (e_ mv (k:=e_ ldv (k:=e_ mv (k:=e_ ixa (k:=e_ (lel (hy:=hrow)) (k:=go ?_)))))))))
  refine e_ (K9 rfl rfl rfl) (k:=?_)
  refine gk (k:=wi_ (k:=fun h8=>?_) (m:=fun h8=>?_))
  ·have hlast:i+1=code.length:=by have h9:=h8;omega
   rw[if_pos hlast]at hck1
   refine gk (k:=bm_ (k:=go ?_))
   refine gk (k:=rt_ Tryz.results73 (k:=?_))
   exact⟨_,hsb, .inr ⟨tb,s35,_,hck1,aa,rfl,rfl⟩⟩
  have hnl:¬i+1=code.length:=by have h9:=h8;omega
  rw[if_neg hnl]at hck1
  refine go ?_
  refine s_ (nJ (fi:= []) (ca:= [.pointer (some ⟨b6,0,none⟩)]) (vs:= [_,_]) rfl rfl (KS (sl:=s35) (b:=b6) (hs:=tb) (i:=i+1) (h:=h') (aa))) (k:=?_)
  rintro _ _ (⟨tb1,hm1,rfl,rfl⟩|⟨hm1,rfl,rfl⟩)
  ·rw[hm1]at hck1;simp only at hck1
   have hl1:=yw hm1
   obtain⟨hg1,hg2⟩:=yx hm1 (aa)
   refine gk (k:=eg (k:=gk (k:=dN 4 105 (k:=fun h9=>gk (k:=edq)) (q:=go ?_))))
   refine gk (k:=wi_ (k:=fun h10=>?_) (m:=fun h10=>?_))
   ·rw[if_pos (Gr (by have h9:=h10;omega))]at hck1
    refine ws_ (wr_ (e_ fla (k:=e_ ldv (k:=e_ mv (k:=e_ lnn (k:=e_ isb (k:=e_ mv (k:=e_ isb (k:=?_)))))))))
    refine e_ (cU 18446744073709551616 rfl rfl rfl (code.length - 2 - i) (aa) (aa)) (k:=?_)
    refine e_ igt (k:=sp_ (mv) (k:=fun h11=>?_) (m:=fun h11=>?_))
    ·have hbig:code.length - 2 - i<A:=by have h9:=h11;omega
     rw[if_pos hbig]at hck1
     refine gk (k:=ift (k:=?_))
     refine gk (k:=rt_ Tryz.results73 (k:=?_))
     exact⟨_,hsb, .inl ⟨hck1,rfl,rfl⟩⟩
    have hsm:¬code.length - 2 - i<A:=by have h9:=h11;omega
    rw[if_neg hsm]at hck1
    refine eg_ mv (k:=eg_ mv (k:=eg_ iad (k:=eg_ fla (k:=eg_ ldv (k:=?_)))))
    refine eg_ (dy rfl (aa)) (k:=?_)
    refine go ?_
    refine sg_ (nJ (fi:= []) (ca:= [.pointer (some ⟨b6,0,none⟩)]) (vs:= [_,_]) rfl rfl (KS (sl:=s35) (b:=b6) (hs:=tb1) (i:=i+1+A) (h:=h') (aa))) (k:=?_)
    rintro _ _ (⟨tb2,hm2,rfl,rfl⟩|⟨hm2,rfl,rfl⟩)
    ·rw[hm2]at hck1;simp only at hck1
     have hl2:=yw hm2
     obtain⟨hg3,hg4⟩:=yx hm2 (aa)
     have hg5:=Dh hm2 hg1
     refine gk (k:=eg (k:=go ?_))
     refine ln_ ((i+1,tb2,max (max most ((h0:Nat):Int)) ((h':Nat):Int),h')) (k:=?_)
     try dsimp only
     exact⟨aa,aa,hck1,hg5,fun j k hk=> by rcases hg4 j k hk with h9|h9;omega;rcases hg2 j k h9 with h9|h9;omega;have:=hkb j k h9;omega⟩
    rw[hm2]at hck1
    refine gk (k:=ift (k:=go ?_))
    refine gk (k:=rt_ Tryz.results73 (k:=?_))
    exact⟨_,hsb, .inl ⟨hck1,rfl,rfl⟩⟩
   rw[if_neg (by rw[MM (by have h9:=h10;omega)];decide)]at hck1
   refine go ?_
   refine ln_ ((i+1,tb1,max (max most ((h0:Nat):Int)) ((h':Nat):Int),h')) (k:=?_)
   try dsimp only
   exact⟨aa,aa,hck1,hg1,fun j k hk=> by rcases hg2 j k hk with h9|h9;omega;have:=hkb j k h9;omega⟩
  rw[hm1]at hck1
  refine gk (k:=ift (k:=go ?_))
  refine gk (k:=rt_ Tryz.results73 (k:=?_))
  exact⟨_,hsb, .inl ⟨hck1,rfl,rfl⟩⟩
 exact absurd h4 (aa)
theorem Mf {G:cK}{H:cG}{a:PrA}{p:PrG} [hg:Glb G H] [hia:Isa H] [hp:gE H a p] [hpc:qA H a p] (hps:HS p):SC G Tryz.prog 45 [.agg (prV a p.all).toArray] H (fun v H'=> ((gD p=none∧v= .tuple #[.agg [.int .i64 0, .int .i64 0].toArray,G.err 20])∨(∃(tb:Hs) (n most:Int),gD p=some tb∧v= .tuple #[.agg [.int .i64 n, .int .i64 most].toArray, .nilIface]))∧H'=H):=by
 refine sWk Tryz.func45 Tryz.ntmps45 ?_
 refine gk (k:=bxx (k:=fun b1=>?_))
 refine alc (k:=fun b2=>?_)
 refine go ?_
 refine c1_ rfl (EY hps) (k:=?_)
 rintro _ _ (⟨hno,rfl,rfl⟩|⟨tb,sl,most,hck,hlen,rfl,rfl⟩)
 ·refine e_ mv (k:=e_ exr (k:=e_ exr (k:=e_ asn (k:=e_ asn (k:=on_ (qn_ (ws_ (ws_ (wr_ (e_ mv (k:=?_)))))))))))
  refine e_ (uN rfl) (k:=?_)
  refine gk (k:=wi_ (k:=fun h1=>?_) (m:=fun h1=>?_))
  ·refine go ?_
   refine df cI (fun i=> [2].contains i) (fun k H=> (k=1→cQ H 16 [G.err 20])) (af_ 0 (q:=cD fun H hH=>bld []) (k:=?_))
   refine cE 1 rfl rfl (a8) rfl (cD fun H hH=>bA) (?_)
   refine cN 2 rfl (a8) rfl (fun k hk=> fun hi=> ab) (dM rfl rfl rfl) ?_
   rintro _ _ ⟨rfl,rfl⟩
   refine af_ 3 (q:=cD fun H hH=>asn) (k:=db (a8) (fun k hk=> fun hi=> ab) (gk (k:=rt_ Tryz.results45 (k:=?_))))
   exact⟨_,hsb, .inl ⟨hno,rfl⟩,rfl⟩
  exact absurd h1 (ag)
 have hne:hsI tb≠ []:=by intro h9;rw[hsI,List.map_eq_nil_iff]at h9;rw[h9]at hlen;exact Nat.lt_irrefl _ hlen
 refine e_ mv (k:=e_ exr (k:=e_ exr (k:=e_ asn (k:=e_ asn (k:=on_ (qn_ (ws_ (ws_ (wr_ (e_ mv (k:=?_)))))))))))
 refine e_ (oQ rfl hne) (k:=?_)
 refine gk (k:=wi_ (k:=fun h2=>?_) (m:=fun h2=>?_))
 ·exact absurd h2 (ag)
 refine wk_ (qn_ (ws_ (wr_ (e_ mv (k:=e_ lnn (k:=e_ mv (k:=e_ (bld [(0,_),(1,_)]) (k:=gk (k:=rt_ Tryz.results45 (k:=?_))))))))))
 exact⟨_,hsb, .inr ⟨tb,_,_,hck,rfl⟩,rfl⟩
abbrev Oz:List Value:= [.func (.func 75) #[] #[], .func (.func 76) #[] #[], .func (.func 78) #[] #[], .func (.func 79) #[] #[], .func (.func 80) #[] #[], .func (.func 81) #[] #[], .func (.func 82) #[] #[], .func (.func 85) #[] #[], .func (.func 87) #[] #[], .func (.func 89) #[] #[], .func (.func 91) #[] #[], .func (.func 93) #[] #[], .func (.func 95) #[] #[], .func (.func 96) #[] #[], .func (.func 97) #[] #[], .func (.func 98) #[] #[], .func (.func 101) #[] #[]]
theorem xH {G:cK}{H:cG}:SC G Tryz.prog 48 [] H (fun v H'=> v= .agg Oz.toArray∧H'=H):=by
 refine sWk Tryz.func48 Tryz.ntmps48 ?_
 refine gk (k:=alc (k:=fun b0=>?_))
 refine on_ (qn_ (ws_ (wr_ (?_))))
 refine e_ (vK Oz rfl rfl) (k:=?_)
 refine gk (k:=rt_ Tryz.results48 (k:=?_))
 exact⟨_,hsb,rfl,rfl⟩
theorem HD {op k:Nat}(h:ni op=some k):op≤16:=by
 unfold ni at h
 have:=(Yk.1 h).1
 simp at this;omega
theorem Ct:∀(n:Nat) (l:List Nat) (xs:List Ins),lq n l=some xs→∀x∈xs,x.1≤16
 | 0,l,xs,h=> by cases h;simp
 |n+1, [],xs,h=> by cases h;simp
 |n+1,op::l,xs,h=> by
  rw[lq]at h
  split at h
  ·cases h
  ·rename_i k hk
   split at h
   ·cases h
   ·rename_i vs r hv
    split at h
    ·cases h
    ·rename_i ys hy
     cases h
     intro x hx
     rcases List.mem_cons.1 hx with rfl|hx
     ·exact HD hk
     ·exact Ct n _ _ hy x hx
section
variable {G:cK}{P:Program}{N:Nat}{Q:Go.Sx.Post}{t:Tm}{H:cG}{c:Code}
theorem Lr {R:cG}(m:Nat) {x:MX}{y:MY} [hr:Rem H Mo m (x,y) R] (h:∀s,W G P N c Q t (Vr m (mV x s y)::Row s eVV y.stk::R)):W G P N c Q t H:=
 ⟨fun a w ha hw=> let ⟨s,hs⟩:=mo (K:=Mo) rfl hr hw;(h s).go a w ha hs⟩
end
theorem OD {x:MX}{s:SV}{y:MY}:∀(op:Nat),op≤16→(mV x s y)[9+op]? =some (.func (.func (MD.getD op 0)) #[] #[])
 | 0,_=> rfl
 | 1,_=> rfl
 | 2,_=> rfl
 | 3,_=> rfl
 | 4,_=> rfl
 | 5,_=> rfl
 | 6,_=> rfl
 | 7,_=> rfl
 | 8,_=> rfl
 | 9,_=> rfl
 | 10,_=> rfl
 | 11,_=> rfl
 | 12,_=> rfl
 | 13,_=> rfl
 | 14,_=> rfl
 | 15,_=> rfl
 | 16,_=> rfl
 |k+17,h=> absurd h (aa)
theorem Ko {l:List Value}{i:Nat}{v:Value}(h:l[i]? =some v):Cut l i 1 [v]:=⟨fun j w hw=> by
 cases j with
 |zero=> rw[←hw];simpa using h
 |succ j=> simp at hw,rfl⟩
structure SOk (x:MX) (p:PrG) (q:PtD) (pss:List (List Po)) (T:Nat) (ins:List Ins):Prop where
 cl:x.cs.length=pss.length
 cu:p.curs.length=pss.length
 fd:∀c∈p.curs,0≤c.1∧c.1<((q.fs.length:Nat):Int)
 av:p.avgs.length=q.fs.length
 ap:∀a∈p.avgs,0≤a
 n:pss.length≤100000000
 q:Bj q
 tot:∀ps∈pss,dg ps≤T
 near:∀n∈p.nears,gl p n=true∧n.cs.length*T≤1000000000000∧n.cs.length≤100000000
 nn:p.nears.length≤1000000000
 dec:∀z∈ins,z.1≤16∧z.2.1<18446744073709551616∧z.2.2<18446744073709551616
 len:ins.length≤100000000
theorem SOk.mok {x:MX}{p:PrG}{q:PtD}{pss:List (List Po)}{T:Nat}{ins:List Ins}{cs:List CuS}(h:SOk x p q pss T ins) (hc:gW pss cs):MOk x p q cs:=
 ⟨by rw[h.cl,hc.len],hc.ok,by rw[h.cu,hc.len],h.fd,h.av,h.ap,by rw[hc.len];exact h.n⟩
theorem SOk.rok {x:MX}{p:PrG}{q:PtD}{pss:List (List Po)}{T:Nat}{ins:List Ins}{cs:List CuS}(h:SOk x p q pss T ins) (hc:gW pss cs):HO p q T cs:=
 ⟨h.q,fun c hc9=> h.tot _ (by rw[←hc.same];exact List.mem_map_of_mem hc9),h.near,h.nn⟩
theorem IV {x:MX}{p:PrG}{q:PtD}{pss:List (List Po)}{T pc:Nat}{ins:List Ins}{tb:Hs}{stk:List VV}{op A B:Nat}(h:SOk x p q pss T ins) (hg:zL p ins tb) (hpc:pc<ins.length) (hx:ins[pc]? =some (op,A,B)) (hst:tb.getD pc none=some stk.length):HV p op A B stk.length:=by
 have hgx:ins.getD pc (0,0,0)=(op,A,B):=by rw[List.getD_eq_getElem?_getD,hx];all_goals rfl
 obtain⟨h0,h',e1,e2,e3,e4,e5⟩:=(hg.step pc hpc).ex
 rw[hst]at e1
 obtain rfl:=Option.some.inj e1
 rw[hgx]at e2 e3 e4 e5
 obtain⟨d1,d2,d3⟩:=h.dec _ (Yj hx)
 refine⟨d1,⟨h',e2⟩,e4,d2,d3,fun hj=> ?_⟩
 have hne:¬pc+1=ins.length:=fun e=> by have:=e3.1 e;simp only at this;omega
 have:=(e5 (aa)).2 (Gr hj)
 have hl:=h.len
 have h1:=this.1
 simp only at h1
 omega
end Go.Sx
