import Derived.Test.YtefgpomabdplbaaGreatDoorQ25
set_option linter.unusedVariables false
set_option linter.unusedSimpArgs false
set_option linter.unusedSectionVars false
set_option linter.unnecessarySimpa false
set_option maxHeartbeats 0
namespace Go.Sx
open Go Go.Proofs
set_option maxRecDepth 100000
abbrev Val:=ByteArray×ByteArray
abbrev Doc:=Int×List Val
def eD:Enc (Int×SV):=⟨fun p=> [.int .i64 p.1,p.2.val],2,true,fun _=> rfl,fun p v h=> by simp at h;rcases h with rfl|rfl <;> rfl,ag,fun h=> aG,ag⟩
instance {p:Int×SV}:jG eD p (.agg [.int .i64 p.1,p.2.val].toArray):=⟨rfl⟩
instance {d:Int}{s:SV}:fK eD (.agg [.int .i64 d,s.val].toArray) (d,s):=⟨rfl⟩
def ga (H:cG) (l:List (Int×SV)) (ds:List Doc):Prop:=l.length=ds.length∧∀(i:Nat) (p:Int×SV) (q:Doc),l[i]? =some p→ds[i]? =some q→p.1=q.1∧Sl H p.2 eVl q.2
theorem ga.get {H:cG}{l:List (Int×SV)}{ds:List Doc}(h:ga H l ds) {i:Nat}(hi:i<l.length):∃d s vs,l[i]? =some (d,s)∧ds[i]? =some (d,vs)∧Sl H s eVl vs:=by
 obtain⟨p,hp⟩:∃p,l[i]? =some p:=⟨_,Yi hi⟩
 obtain⟨q,hq⟩:∃q,ds[i]? =some q:=⟨_,Yi (by rw[←h.1];exact hi)⟩
 obtain⟨h1,h2⟩:=h.2 i p q hp hq
 exact⟨p.1,p.2,q.2,hp,by rw[hq,h1],h2⟩
theorem ga.tail {H:cG}{A:Hp}{l:List (Int×SV)}{ds:List Doc}(h:ga H l ds):ga (A::H) l ds:=⟨h.1,fun i p q hp hq=> by
 obtain⟨h1,h2⟩:=h.2 i p q hp hq
 exact⟨h1,Sl.tail⟩⟩
def dsz (ds:List Doc):Nat:=(ds.map fun d=> vsz d.2).sum
theorem Hl (ds:List Doc) (i:Nat):dsz (ds.take i)≤dsz ds:=by
 rw[dsz,dsz,List.map_take];exact nG _ _
theorem sG {ds:List Doc}{d:Doc}(h:d∈ds):vsz d.2≤dsz ds:=by
 induction ds with
 |nil=> simp at h
 |cons e ds ih=>
  simp only[dsz,List.map_cons,List.sum_cons]at ih⊢
  rcases List.mem_cons.1 h with rfl|h
  ·omega
  ·have:=ih h;omega
theorem qZ (fs:List FV) (k:Nat) (vs:List Val):(et fs k vs).length≤vsz vs:=by
 unfold et
 split
 ·rename_i p hp
  have:=AY p vs vs.length _ _ rfl
  rw[List.take_length]at this
  exact this.2
 ·simp
def nC (fs:List FV) (f k:Nat) (vs:List Val):List Tri:=(et fs f vs).map fun t=> (cF (qb f (dL t.text)),k,t.pos)
def fF (fs:List FV) (f:Nat):Nat→List Doc→List Tri
 |_, []=> []
 |k,d::r=> nC fs f k d.2++fF fs f (k+1) r
theorem uw (fs:List FV) (f:Nat):∀(l:List Doc) (k:Nat) (d:Doc),fF fs f k (l++ [d])=fF fs f k l++nC fs f (k+l.length) d.2
 | [],k,d=> by simp[fF]
 |e::l,k,d=> by
  rw[Yd,fF,uw fs f l (k+1) d,fF,Yf,Yb,show k+1+l.length=k+(l.length+1)from aa]
theorem B9 {fs:List FV}{f i:Nat}{ds:List Doc}{d:Doc}(h:ds[i]? =some d):fF fs f 0 (ds.take (i+1))=fF fs f 0 (ds.take i)++nC fs f i d.2:=by
 have hi:=(Yk.1 h).1
 rw[cP h,uw,Yg,Nat.min_eq_left (aa),Nat.zero_add]
theorem re (fs:List FV) (f:Nat):∀(l:List Doc) (k:Nat),(fF fs f k l).length≤dsz l
 | [],_=> by simp[fF]
 |d::l,k=> by
  have h1:=re fs f l (k+1)
  have h2:=qZ fs f d.2
  simp only[fF,dsz,nC,Ya,Yh,List.map_cons,List.sum_cons]at*
  omega
def eE (fs:List FV) (ds:List Doc):List Tri:=(List.range fs.length).flatMap fun f=> fF fs f 0 ds
def mw (fs:List FV) (ds:List Doc) (f:Nat):List Tri:=(List.range f).flatMap fun f=> fF fs f 0 ds
theorem qM (fs:List FV) (ds:List Doc) (f:Nat):mw fs ds (f+1)=mw fs ds f++fF fs f 0 ds:=by simp[mw,List.range_succ]
theorem yj (fs:List FV) (ds:List Doc):∀f,(mw fs ds f).length≤f*dsz ds
 | 0=> by simp[mw]
 |f+1=> by
  have h1:=yj fs ds f
  have h2:=re fs f ds 0
  rw[qM,Ya,Nat.add_mul,Nat.one_mul];omega
def dP (fs:List FV) (ds:List Doc) (f:Nat):List Nat:=ds.map fun d=> (et fs f d.2).length
theorem zZ {p:FV}{w:List Nat}{t:Tok}(h:t∈fO p w):t.text.length≤64:=by
 rw[fO]at h
 split at h
 ·obtain⟨t0,h0,hk⟩:=List.mem_filterMap.1 h
  rw[lR]at hk
  split at hk
  ·split at hk
   ·obtain rfl:=Option.some.inj hk;assumption
   ·cases hk
  ·cases hk
 ·split at h
  ·split at h
   ·simp at h;subst h;assumption
   ·simp at h
  ·split at h
   ·split at h
    ·simp at h;subst h;rw[nR];decide
    ·simp at h
   ·simp at h
theorem oq (p:FV) (vs:List Val):∀i,∀t∈(eZ p vs i).2,t.text.length≤64
 | 0,t,h=> by simp[eZ]at h
 |i+1,t,h=> by
  rw[eZ]at h
  split at h
  ·exact oq p vs i t h
  ·split at h
   ·rcases List.mem_append.1 h with h|h
    ·exact oq p vs i t h
    ·obtain⟨t0,h0,rfl⟩:=List.mem_map.1 h
     exact zZ (t:=t0) h0
   ·exact oq p vs i t h
theorem rM {fs:List FV}{k:Nat}{vs:List Val}{t:Tok}(h:t∈et fs k vs):t.text.length≤64:=by
 unfold et at h
 split at h
 ·exact oq _ _ _ t h
 ·simp at h
def lnH (z:SV×List Nat):cG:= [Row z.1 eI (cV z.2)]
theorem C4 {l:List (SV×List Nat)}{i:Nat}{z:SV×List Nat}{H:cG}(h:l[i]? =some z):cJ (Cl lnH l::H) (Row z.1 eI (cV z.2)::Cl lnH (l.take i)::Cl lnH (l.drop (i+1))::H):=mY (f:=lnH) h
theorem Gf {l:List (SV×List Nat)}{i:Nat}(z:SV×List Nat) {H:cG}(hi:i<l.length):cJ (Row z.1 eI (cV z.2)::Cl lnH (l.take i)::Cl lnH (l.drop (i+1))::H) (Cl lnH (l.set i z)::H):=qo (f:=lnH) z hi
theorem C3 {l:List (SV×List Nat)}(z:SV×List Nat) {H:cG}:cJ (Row z.1 eI (cV z.2)::Cl lnH l::H) (Cl lnH (l++ [z])::H):=mX (f:=lnH) z
theorem Ge {H:cG}:∀n,cJ H (Cl lnH (List.replicate n (SV.nil, []))::H)
 | 0=> fe cJ.refl
 |n+1=> by
  rw[List.replicate_succ']
  exact((Ge n).trans (cJ.nilRow (e:=eI) cJ.refl)).trans (C3 (SV.nil, []))
theorem CP {r:Nat}{R:cG}:cJ (Mv r []::R) (gY r []::R):=(fe cJ.refl).trans (pG (es:= []) fD.nil)
theorem Gg {zs:List (SV×List Nat)}{A:List (List Nat)}{n:Nat}(s:SV) (x:List Nat) (h:zs.map (·.2)=A++List.replicate (n+1) []):(zs.set A.length (s,x)).map (·.2)=A++ [x]++List.replicate n []:=by
 rw[List.map_set,h,List.replicate_succ,List.set_append_right _ _ (Nat.le_refl _),Nat.sub_self]
 simp
theorem BE {G:cK}{H:cG}{fv dv:SV}{fs:List FV}{l:List (Int×SV)}{ds:List Doc} [hf:Sl H fv eF fs] [hd:Sl H dv eD l] [Spc H] (hS:gU G) (hdi:ga H l ds) (hfl:fs.length≤16) (hn:ds.length≤100000) (hq:∀d∈ds,d.2.length≤100000000∧∀v∈d.2,v.2.size≤3000000) (hz:dsz ds≤30000000):
 SC G Tryz.prog 106 [.agg [fv.val].toArray,dv.val] H (fun v H'=> ∃(g:Nat) (lv:SV) (r:Nat) (zs:List (SV×List Nat)),v= .pointer (some ⟨g,0,none⟩)∧zs.map (·.2)=(List.range fs.length).map (dP fs ds)∧H'=Vr g [fv.val,dv.val,lv.val, .map (some r)]::Row lv eSV (zs.map (·.1))::Cl lnH zs::gY r (eE fs ds)::H):=by
 have hll:=hdi.1
 refine sWk Tryz.func106 Tryz.ntmps106 ?_
 refine gk (k:=bxx (k:=fun b2=>?_))
 refine e_ asn (k:=on_ (qn_ (w7 (Nat×SV×Nat) (fun y=> True) (fun y=> [(5, .pointer (some ⟨y.1,0,none⟩))]) [5,12,13,14,15,16,17,18,19,20] (fun y=> [Vr y.1 [fv.val,dv.val,y.2.1.val, .map (some y.2.2)],Row y.2.1 eSV (List.replicate fs.length SV.nil),Mv y.2.2 []]) (Vr b2 [fv.val]::H) ?_ ?_)))
 ·refine df cI (fun i=> [5,6,8].contains i) (fun k H=> (k=0→cQ H b2 [fv.val])∧(k=3→cQ H b2 [fv.val])∧(k=4→Sl H fv eF fs)) (?_)
  refine cE 0 rfl rfl (a8) rfl (cD fun H hH=>bH) (?_)
  refine af_ 1 (q:=cD fun H hH=>mv) (k:=af_ 2 (q:=cD fun H hH=>fla) (k:=?_))
  refine cE 3 rfl rfl (a8) rfl (cD fun H hH=>ar) (?_)
  refine cE 4 rfl rfl (a8) rfl (cD fun H hH=>by have hN:=hH.2.2 rfl;exact lnn) (?_)
  refine HG 5 6 rfl rfl (a8) rfl rfl (fun k hk=> ⟨fun hi=> ab,fun hi=> ab,fun hi=> ab⟩) (eX eSV SV.nil rfl rfl _ _ rfl rfl rfl (aa) (aa) (aa)) (tg) ?_ ?_
  ·rintro _ _ ⟨s17,rfl,hs17n,hs17c,rfl⟩
   refine cN 6 rfl (a8) rfl (fun k hk=> ⟨fun hi=> ab,fun hi=> ab,fun hi=> absurd hk (ad)⟩) (tg) ?_
   rintro _ _ ⟨m18,rfl,rfl⟩
   refine af_ 7 (q:=cD fun H hH=>bld [(0,_),(1,_),(2,_),(3,_)]) (k:=?_)
   refine cN 8 rfl (a8) rfl (fun k hk=> ⟨fun hi=> ab,fun hi=> ab,fun hi=> absurd hk (ad)⟩) (th rfl) ?_
   rintro _ _ ⟨b20,rfl,rfl⟩
   refine af_ 9 (q:=cD fun H hH=>asn) (k:=db (a8) (fun k hk=> ⟨fun hi=> ab,fun hi=> ab,fun hi=> absurd hk (ad)⟩) (jnE ((b20,s17,m18)) (q:=?_)))
   trivial
  rintro _ _ ⟨m18,rfl,rfl⟩
  refine cN 5 rfl (a8) rfl (fun k hk=> ⟨fun hi=> ab,fun hi=> ab,fun hi=> ab⟩) (eX eSV SV.nil rfl rfl _ _ rfl rfl rfl (aa) (aa) (aa)) ?_
  rintro _ _ ⟨s17,rfl,hs17n,hs17c,rfl⟩
  refine af_ 7 (q:=cD fun H hH=>bld [(0,_),(1,_),(2,_),(3,_)]) (k:=?_)
  refine cN 8 rfl (a8) rfl (fun k hk=> ⟨fun hi=> ab,fun hi=> ab,fun hi=> absurd hk (ad)⟩) (th rfl) ?_
  rintro _ _ ⟨b20,rfl,rfl⟩
  refine af_ 9 (q:=cD fun H hH=>asn) (k:=db (a8) (fun k hk=> ⟨fun hi=> ab,fun hi=> ab,fun hi=> absurd hk (ad)⟩) (jnE ((b20,s17,m18)) (q:=?_)))
  trivial
 rintro⟨g,lv,r⟩ -
 try dsimp only[Yd,Ye]at*
 refine ws_ (ws_ (wr_ (?_)))
 refine du (cJ.keep (cJ.keep CP)) ?_
 refine du (Ge fs.length) ?_
 rw[show List.replicate fs.length SV.nil=(List.replicate fs.length ((SV.nil, []):SV×List Nat)).map (·.1)from an,show gY r []=gY r (mw fs ds 0)from rfl]
 refine gk (k:=dt (Nat×(List (SV×List Nat))) (fun y=> y.1≤fs.length∧y.2.map (·.2)=(List.range y.1).map (dP fs ds)++List.replicate (fs.length - y.1) []) (fun y=> [(24, .int .i64 ((y.1:Nat):Int))]) [(1,_),(2,_),(5,_),(23,_)] (fun y=> [Row lv eSV (y.2.map (·.1)),Cl lnH y.2,gY r (mw fs ds y.1)]) _ (fun y=> fs.length - y.1) ((0,List.replicate fs.length (SV.nil, []))) (h0:=?_) (k:=?_))
 ·try dsimp only
  exact⟨Yl _,an⟩
 rintro⟨f,zs⟩ ⟨hf1,hzs⟩
 try dsimp only[Yd,Ye]at*
 refine gk (k:=wi_ (k:=fun h1=>?_) (m:=fun h1=>?_))
 ·have hzl:zs.length=fs.length:=by have:=congrArg List.length hzs;simp at this;omega
  obtain⟨z,hz⟩:∃z,zs[f]? =some z:=⟨_,Yi (aa)⟩
  have hml:(zs.map (·.1)).length=zs.length:=Yh ..
  have hln:(cV (dP fs ds f)).length=l.length:=by rw[dO,dP,Yh,hll]
  obtain⟨n0,hn0⟩:∃n0,fs.length - f=n0+1:=⟨fs.length - f - 1,aa⟩
  have hnx:=fun s=> Gg (A:=(List.range f).map (dP fs ds)) s (dP fs ds f) (by rw[←hn0];exact hzs)
  rw[Yh,List.length_range]at hnx
  refine go ?_
  refine df cI (fun i=> [7,9].contains i) (fun k H=> (k=2→cQ H g [fv.val,dv.val,lv.val, .map (some r)])∧(k=3→cQ H g [fv.val,dv.val,lv.val, .map (some r)])∧(k=6→Sl H dv eD l)∧(k=8→Sl H lv eSV (zs.map (·.1)))) (af_ 0 (q:=cD fun H hH=>mv) (k:=af_ 1 (q:=cD fun H hH=>nck) (k:=?_)))
  refine cE 2 rfl rfl (a8) rfl (cD fun H hH=>bn) (?_)
  refine cE 3 rfl rfl (a8) rfl (cD fun H hH=>ar) (?_)
  refine af_ 4 (q:=cD fun H hH=>mv) (k:=af_ 5 (q:=cD fun H hH=>mv) (k:=?_))
  refine cE 6 rfl rfl (a8) rfl (cD fun H hH=>cf) (?_)
  refine cN 7 rfl (a8) rfl (fun k hk=> ⟨fun hi=> ab,fun hi=> ab,fun hi=> ab,fun hi=> ab⟩) (eX eI 0 rfl rfl _ _ rfl rfl rfl (aa) (aa) (aa)) ?_
  rintro _ _ ⟨s34,rfl,hs34n,hs34c,rfl⟩
  refine cE 8 rfl rfl (a8) rfl (cD fun H hH=>by have hN:=hH.2.2.2 rfl;exact ixa) (?_)
  refine cN 9 rfl (a8) rfl (fun k hk=> ⟨fun hi=> ab,fun hi=> ab,fun hi=> absurd hk (ad),fun hi=> ab⟩) (dH (i:=f) rfl rfl rfl (aa)) ?_
  rintro _ _ ⟨rfl,rfl⟩
  refine db (a8) (fun k hk=> ⟨fun hi=> absurd hk (ad),fun hi=> absurd hk (ad),fun hi=> absurd hk (ad),fun hi=> absurd hk (ad)⟩) (qn_ (ws_ (wr_ (?_))))
  rw[show(zs.map (·.1)).set f s34=(zs.set f (s34,dP fs ds f)).map (·.1)from by rw[List.map_set],show Row s34 eI (List.replicate l.length (0:Int))=Row s34 eI (eA (cV (dP fs ds f)) 0 0)from by rw[kd,hln],show gY r (mw fs ds f)=gY r (mw fs ds f++fF fs f 0 (ds.take 0))from by simp[fF]]
  refine du (fm (A:=Cl lnH zs) inferInstance ((C4 hz).trans (cJ.drop cJ.refl))) ?_
  have hlvf:((zs.set f (s34,dP fs ds f)).map (·.1))[f]? =some s34:=by rw[Xd,List.getElem?_set_self (aa)];all_goals rfl
  have hlvl:((zs.set f (s34,dP fs ds f)).map (·.1)).length=fs.length:=by rw[Yh,List.length_set,hzl]
  refine gk (k:=dt (Nat) (fun y=> y≤l.length) (fun y=> [(38, .int .i64 ((y:Nat):Int))]) [(1,_),(2,_),(5,_),(6,_),(23,_),(24,_),(36,_),(37,_)] (fun y=> [Row s34 eI (eA (cV (dP fs ds f)) 0 y),gY r (mw fs ds f++fF fs f 0 (ds.take y))]) _ (fun y=> l.length - y) (0) (h0:=?_) (k:=?_))
  ·try dsimp only
   exact Yl _
  rintro j hj
  try dsimp only[Yd,Ye]at*
  refine gk (k:=wi_ (k:=fun h2=>?_) (m:=fun h2=>?_))
  ·obtain⟨d,s,vs,hlj,hdj,hsl⟩:=hdi.get (i:=j) (aa)
   have hmem:=Yj hdj
   obtain⟨hq1,hq2⟩:=hq _ hmem
   have hvz:=sG hmem
   have hfl2:=qZ fs f vs
   have hp1:=yj fs ds f
   have hp2:=re fs f (ds.take j) 0
   have hp3:=Hl ds j
   have hp4:f*dsz ds≤16*dsz ds:=Nat.mul_le_mul_right _ (aa)
   have hg1:(cV (dP fs ds f))[j]? =some (((et fs f vs).length:Nat):Int):=ez (by rw[dP,Xd,hdj];all_goals rfl)
   have hfll:=ik (full:=cV (dP fs ds f)) (z:=(0:Int)) (i:=j) (aa)
   simp only at hq1 hq2 hvz
   refine gk (k:=alc (k:=fun b8=>?_))
   refine go ?_
   refine c3_ rfl (M8 hS (aa) (aa) hq1 hq2 (aa)) (k:=?_)
   rintro _ _ ⟨s47,rfl,rfl⟩
   refine e_ asn (k:=on_ (qn_ (ws_ (wr_ (e_ mv (k:=e_ nck (k:=e_ fla (k:=e_ ldv (k:=e_ mv (k:=e_ ixa (k:=e_ (lel (hy:=hlvf)) (k:=go ?_))))))))))))
   refine go ?_
   refine s_ (dH (i:=j) rfl rfl rfl (aa)) (k:=?_)
   rintro _ _ ⟨rfl,rfl⟩
   rw[lW hg1]
   refine on_ (qn_ (ws_ (wr_ (?_))))
   rw[show gY r (mw fs ds f++fF fs f 0 (ds.take j))=gY r (mw fs ds f++fF fs f 0 (ds.take j)++(nC fs f j vs).take 0)from an]
   refine gk (k:=dt (Nat) (fun y=> y≤(et fs f vs).length) (fun y=> [(61, .int .i64 ((y:Nat):Int))]) [(1,_),(2,_),(5,_),(6,_),(7,_),(23,_),(24,_),(36,_),(37,_),(38,_),(59,_),(60,_)] (fun y=> [gY r (mw fs ds f++fF fs f 0 (ds.take j)++(nC fs f j vs).take y)]) _ (fun y=> (et fs f vs).length - y) (0) (h0:=?_) (k:=?_))
   ·try dsimp only
    exact Yl _
   rintro m hm
   try dsimp only[Yd,Ye]at*
   refine gk (k:=wi_ (k:=fun h3=>?_) (m:=fun h3=>?_))
   ·obtain⟨t,ht⟩:∃t,(et fs f vs)[m]? =some t:=⟨_,Yi (aa)⟩
    have htl:=rM (Yj ht)
    have htk:(nC fs f j vs).take (m+1)=(nC fs f j vs).take m++ [(cF (qb f (dL t.text)),j,t.pos)]:=by simp only[nC,←List.map_take];exact BY ht
    have htl3:((nC fs f j vs).take m).length≤(et fs f vs).length:=by rw[Yg,nC,Yh];omega
    have hTl:(mw fs ds f++fF fs f 0 (ds.take j)++(nC fs f j vs).take m).length≤1000000000:=ai
    have hsz:=jg t.text
    refine gk (k:=alc (k:=fun b11=>?_))
    refine go ?_
    refine df cI (fun i=> [8].contains i) (fun k H=> (k=2→cQ H b11 [.string (dL t.text), .int .i64 ((t.value:Nat):Int), .int .i64 ((t.pos:Nat):Int), .int .i64 ((t.st:Nat):Int), .int .i64 ((t.en:Nat):Int)])∧(k=3→cQ H b11 [.string (dL t.text), .int .i64 ((t.value:Nat):Int), .int .i64 ((t.pos:Nat):Int), .int .i64 ((t.st:Nat):Int), .int .i64 ((t.en:Nat):Int)])∧(k=6→cQ H b11 [.string (dL t.text), .int .i64 ((t.value:Nat):Int), .int .i64 ((t.pos:Nat):Int), .int .i64 ((t.st:Nat):Int), .int .i64 ((t.en:Nat):Int)])∧(k=7→cQ H b11 [.string (dL t.text), .int .i64 ((t.value:Nat):Int), .int .i64 ((t.pos:Nat):Int), .int .i64 ((t.st:Nat):Int), .int .i64 ((t.en:Nat):Int)])) (af_ 0 (q:=cD fun H hH=>mv) (k:=af_ 1 (q:=cD fun H hH=>mv) (k:=?_)))
    refine cE 2 rfl rfl (a8) rfl (cD fun H hH=>bn) (?_)
    refine cE 3 rfl rfl (a8) rfl (cD fun H hH=>ar) (?_)
    refine cE 4 rfl rfl (a8) rfl (fun H _=> gQ (vs:= [_,_]) rfl (NZ (aa)) H rfl) (?_)
    refine af_ 5 (q:=cD fun H hH=>mv) (k:=?_)
    refine cE 6 rfl rfl (a8) rfl (cD fun H hH=>by have hN:=hH.2.2.1 rfl;exact fla) (?_)
    refine cE 7 rfl rfl (a8) rfl (cD fun H hH=>by have hN:=hH.2.2.2 rfl;exact ldv) (?_)
    refine cN 8 rfl (a8) rfl (fun k hk=> ⟨fun hi=> ab,fun hi=> ab,fun hi=> ab,fun hi=> ab⟩) (cW (vs:= [_,_,_,_]) rfl (PQ (r:=r) hTl)) ?_
    rintro _ _ ⟨rfl,rfl⟩
    rw[Yf,←htk]
    refine db (a8) (fun k hk=> ⟨fun hi=> ab,fun hi=> ab,fun hi=> ab,fun hi=> absurd hk (ad)⟩) (go ?_)
    refine ln_ (m+1) (k:=?_)
    try dsimp only
    omega
   obtain rfl:m=(et fs f vs).length:=aa
   rw[Yf,show fF fs f 0 (ds.take j)++(nC fs f j vs).take (et fs f vs).length=fF fs f 0 (ds.take (j+1))from by rw[B9 hdj,show(nC fs f j vs).take (et fs f vs).length=nC fs f j vs from List.take_of_length_le (by simp[nC])]]
   refine go ?_
   refine ln_ (j+1) (k:=?_)
   try dsimp only
   omega
  obtain rfl:j=l.length:=aa
  rw[show eA (cV (dP fs ds f)) 0 l.length=cV (dP fs ds f)from by rw[←hln,kE],show ds.take l.length=ds from by rw[hll,List.take_length],←qM]
  refine we_ (qe_ (le_ (bh_ (bn_ (qn_ (wr_ (?_)))))))
  refine du (cJ.trans (H':=Row s34 eI (cV (dP fs ds f))::Cl lnH (zs.take f)::Cl lnH (zs.drop (f+1))::Row lv eSV ((zs.set f (s34,dP fs ds f)).map (·.1))::gY r (mw fs ds (f+1))::Vr g [fv.val,dv.val,lv.val, .map (some r)]::Vr b2 [fv.val]::H) (hsb) (Gf (s34,dP fs ds f) (aa))) ?_
  refine go ?_
  refine ln_ ((f+1,zs.set f (s34,dP fs ds f))) (k:=?_)
  try dsimp only
  exact⟨aa,by rw[hnx s34,List.range_succ,List.map_append,show fs.length - (f+1)=n0 from aa];all_goals rfl⟩
 obtain rfl:f=fs.length:=aa
 rw[Nat.sub_self,List.replicate_zero,Ym]at hzs
 rw[show mw fs ds fs.length=eE fs ds from rfl]
 refine gk (k:=rt_ Tryz.results106 (k:=?_))
 exact⟨_,hsb,g,lv,r,zs,rfl,hzs,rfl⟩
abbrev uQ:=List Nat×List Po
def gb:Nat→List uQ→List En
 |_, []=> []
 |n,p::r=> ⟨dL p.1,p.2.length,dg p.2,n,(dx p.2).length⟩::gb (n+(dx p.2).length) r
def dB (rs:List uQ):List Nat:=rs.flatMap fun p=> dx p.2
theorem gS:∀(rs:List uQ) (n:Nat),(gb n rs).length=rs.length
 | [],_=> rfl
 |p::r,n=> by simp[gb,gS r]
theorem nO {rs:List uQ}{i:Nat}{p:uQ}(h:rs[i]? =some p):dB (rs.take (i+1))=dB (rs.take i)++dx p.2:=by rw[cP h];simp[dB]
theorem lX:∀{rs:List uQ}{n i:Nat}{p:uQ},rs[i]? =some p→(gb n rs)[i]? =some ⟨dL p.1,p.2.length,dg p.2,n+(dB (rs.take i)).length,(dx p.2).length⟩
 | [],_,_,_,h=> aG
 |q::r,n,0,p,h=> by simp at h;subst h;simp[gb,dB]
 |q::r,n,i+1,p,h=> by
  rw[Xc]at h
  rw[gb,Xc,lX h,List.take_succ_cons]
  simp only[dB,List.flatMap_cons,Ya,Nat.add_assoc]
def eG (fs:List FV) (v:Val):List Nat:=uv ((fk fs (cF v.1)).getD 0)++(uv v.2.size++cF v.2)
def pK (fs:List FV) (d:Doc):List Nat:=uv d.2.length++d.2.flatMap (eG fs)
def ep (fs:List FV) (ds:List Doc):List Nat:=ds.flatMap (pK fs)
def kY (fs:List FV) (ds:List Doc) (n:Nat):List Nat:=(List.range n).flatMap fun f=> dJ (dP fs ds f)
def mH (ds:List Doc):List Nat:=uv ds.length++fP (-1) (ds.map (·.1))
def lJ (fs:List FV) (ds:List Doc):List (Nat×List Nat):= [(1,wW fs),(2,mH ds),(3,kY fs ds fs.length),(4,fA (gb 0 (dm (eE fs ds)))),(5,dB (dm (eE fs ds))),(6,ep fs ds)]
def y7 (fs:List FV) (ds:List Doc):List Nat:=kT 83 (lJ fs ds)
structure uF (ts:List Tri):Prop where
 up:UpT ts
 few:ts.length≤100000000
 small:∀t∈ts,t.1.length≤65∧1≤t.1.length∧(∀x∈t.1,x<256)∧t.2.1≤99999∧t.2.2<1099511627776
theorem su {ts:List Tri}{k:List Nat}{x:Nat×Nat}(h:x∈ofK ts k):(k,x)∈ts:=by
 obtain⟨t,ht,rfl⟩:=List.mem_map.1 h
 obtain⟨h1,h2⟩:=List.mem_filter.1 ht
 have:=Yt h2
 rw[←this];exact h1
theorem yo:∀{l:List Po}{nb m:Nat},fW nb l→(∀p∈l,p.1≤m)→l.length+nb≤m+1∨l= []
 | [],_,_,_,_=> .inr rfl
 |p::r,nb,m,h,hm=> by
  have h1:=hm p (an)
  rcases yo (m:=m) h.2.2.2 (fun q hq=> hm q (Xa _ hq))with h2|rfl
  ·left;have:=h.1;simp only[Yb];omega
  ·left;have:=h.1;simp only[Yb,Yc];omega
theorem lU {ts:List Tri}(h:uF ts) {k:List Nat}:fW 0 (iD (ofK ts k))∧e8 (iD (ofK ts k))∧dg (iD (ofK ts k))≤ts.length:=by
 obtain⟨h1,h2⟩:=JS (h.up k)
 obtain⟨h3,h4⟩:=oo (ofK ts k)
 have h5:=wA ts k
 have hd:∀p∈iD (ofK ts k),p.1≤99999:=fun p hp=> by
  obtain⟨i,hi⟩:=List.getElem?_of_mem hp
  have hne:=(ij h1 hi).2.1
  obtain⟨x,hx⟩:=List.exists_mem_of_ne_nil _ hne
  have:=(h.small _ (su (h2 p hp x hx))).2.2.2.1
  simpa using this
 refine⟨h1,⟨?_,fun p hp=> ⟨by have:=hd p hp;omega,?_,fun x hx=> (h.small _ (su (h2 p hp x hx))).2.2.2.2⟩⟩,aa⟩
 ·rcases yo h1 hd with h9|h9
  ·omega
  ·rw[h9];simp
 ·have:∀(l:List Po),p∈l→p.2.length≤dg l:=by
   intro l
   induction l with
   |nil=> intro hh;simp at hh
   |cons q l ih=>
    intro hh
    simp only[dg,List.map_cons,List.sum_cons]at ih⊢
    rcases List.mem_cons.1 hh with rfl|hh
    ·omega
    ·have:=ih hh;omega
  have:=this _ hp
  have:=h.few
  omega
def xh (H:cG) (l:List SV) (xs:List (List Nat)):Prop:=l.length=xs.length∧∀(i:Nat) (s:SV) (x:List Nat),l[i]? =some s→xs[i]? =some x→Sl H s eB x
theorem xh.get {H:cG}{l:List SV}{xs:List (List Nat)}(h:xh H l xs) {i:Nat}(hi:i<l.length):∃s x,l[i]? =some s∧xs[i]? =some x∧Sl H s eB x:=by
 obtain⟨p,hp⟩:∃p,l[i]? =some p:=⟨_,Yi hi⟩
 obtain⟨q,hq⟩:∃q,xs[i]? =some q:=⟨_,Yi (by rw[←h.1];exact hi)⟩
 exact⟨p,q,hp,hq,h.2 i p q hp hq⟩
theorem HM {H:cG}{s u:SV}{x y:List Nat} [h1:Sl H s eB x] [h2:Sl H u eB y]:xh H [s,u] [x,y]:=⟨rfl,fun i p q hp hq=> by
 match i,hp,hq with
 | 0,hp,hq=> simp at hp hq;subst hp;subst hq;exact h1
 | 1,hp,hq=> simp at hp hq;subst hp;subst hq;exact h2⟩
theorem xB {α:Type}(l:List α) (a b:Nat):(l.take (min b l.length)).drop a=(l.take b).drop a:=by
 rw[←List.take_eq_take_min]
theorem BT:∀{l:List Po}{nb:Nat},fW nb l→∀p∈l,nb≤p.1
 | [],_,_,p,hp=> by simp at hp
 |q::r,nb,h,p,hp=> by
  rcases List.mem_cons.1 hp with rfl|hp
  ·exact h.1
  ·have:=BT h.2.2.2 p hp
   have:=h.1;omega
theorem xh.tail {H:cG}{A:Hp}{l:List SV}{xs:List (List Nat)}(h:xh H l xs):xh (A::H) l xs:=⟨h.1,fun i s x h1 h2=> by have:=h.2 i s x h1 h2;exact Sl.tail⟩
theorem qW {xs:List (List Nat)}{i:Nat}{x:List Nat}(h:xs[i]? =some x):(xs.take (i+1)).flatten=(xs.take i).flatten++x:=by
 rw[cP h];simp
theorem wN (xs:List (List Nat)) (i:Nat):(xs.take i).flatten.length≤xs.flatten.length:=by
 conv=> rhs;rw[←List.take_append_drop i xs,List.flatten_append,Ya]
 omega
theorem DB {xs:List (List Nat)}{i:Nat}{x:List Nat}(h:xs[i]? =some x):(eA xs.flatten 0 (xs.take i).flatten.length).take (xs.take i).flatten.length++x.take x.length++(eA xs.flatten 0 (xs.take i).flatten.length).drop ((xs.take i).flatten.length+x.length)=eA xs.flatten 0 (xs.take (i+1)).flatten.length:=by
 have hle:=wN xs (i+1)
 have hfl:=qW h
 rw[hfl,Ya]at hle
 have e:xs.flatten=(xs.take i).flatten++(x++(xs.drop (i+1)).flatten):=by
  rw[←Yf,←hfl,←List.flatten_append,List.take_append_drop]
 have h1:xs.flatten.take (xs.take i).flatten.length=(xs.take i).flatten:=by
  conv=> lhs;rw[e]
  exact List.take_left ..
 have h2:xs.flatten.take (xs.take (i+1)).flatten.length=(xs.take i).flatten++x:=by
  conv=> lhs;rw[e,←Yf,←hfl]
  rw[List.take_left,hfl]
 rw[eA,eA,h1,h2,hfl,Ya,List.take_left,List.take_length,List.drop_append,List.drop_of_length_le (aa),List.drop_replicate]
 simp only[Ye,Nat.add_sub_cancel_left]
 rw[show xs.flatten.length - (xs.take i).flatten.length - x.length=xs.flatten.length - ((xs.take i).flatten.length+x.length)from aa]
theorem Kt {G:cK}{H:cG}{p:SV}{l:List SV}{xs:List (List Nat)} [hs:Sl H p eSV l] (hl:xh H l xs) (hm:xs.length≤1000000000) (hn:xs.flatten.length≤1000000000000):SC G Tryz.prog 68 [p.val] H (fun v H'=> ∃s':SV,v=s'.val∧H'=Row s' eB xs.flatten::H):=by
 have hlx:=hl.1
 refine sWk Tryz.func68 Tryz.ntmps68 ?_
 refine go ?_
 refine gk (k:=dt (Nat) (fun y=> y≤l.length) (fun y=> [(3, .int .i64 (((xs.take y).flatten.length:Nat):Int)),(12, .int .i64 ((y:Nat):Int))]) [(0,_),(10,_),(11,_)] (fun y=> []) _ (fun y=> l.length - y) (0) (h0:=?_) (k:=?_))
 ·try dsimp only
  exact Yl _
 rintro i hi
 try dsimp only[Yd,Ye]at*
 refine gk (k:=wi_ (k:=fun h1=>?_) (m:=fun h1=>?_))
 ·obtain⟨s,x,hli,hxi,hsl⟩:=hl.get (i:=i) (aa)
  have hfl:=qW hxi
  have hle:=wN xs (i+1)
  rw[hfl,Ya]at hle
  refine wk_ (qn_ (ws_ (wb_ (ws_ (wr_ (e_ ixa (k:=e_ lel (k:=e_ asn (k:=on_ (qn_ (wr_ (e_ mv (k:=e_ mv (k:=?_))))))))))))))
  refine e_ lnn (k:=e_ iad (k:=e_ asn (k:=on_ (bn_ (qn_ (wr_ (?_)))))))
  rw[show(((xs.take i).flatten.length:Nat):Int)+((x.length:Nat):Int)=(((xs.take (i+1)).flatten.length:Nat):Int)from by rw[hfl,Ya];omega]
  refine go ?_
  refine ln_ (i+1) (k:=?_)
  try dsimp only
  omega
 obtain rfl:i=l.length:=aa
 rw[show xs.take l.length=xs from by rw[hlx,List.take_length]]
 refine go ?_
 refine s_ (eX eB 0 rfl rfl _ _ rfl rfl rfl (aa) (aa) (aa)) (k:=?_)
 rintro _ _ ⟨s22,rfl,hs22n,hs22c,rfl⟩
 refine e_ asn (k:=on_ (qn_ (ws_ (wr_ (?_)))))
 rw[show Row s22 eB (List.replicate xs.flatten.length 0)=Row s22 eB (eA xs.flatten 0 (xs.take 0).flatten.length)from by simp[eA]]
 refine gk (k:=dt (Nat) (fun y=> y≤l.length) (fun y=> [(7, .int .i64 (((xs.take y).flatten.length:Nat):Int)),(25, .int .i64 ((y:Nat):Int))]) [(6,_),(23,_),(24,_)] (fun y=> [Row s22 eB (eA xs.flatten 0 (xs.take y).flatten.length)]) _ (fun y=> l.length - y) (0) (h0:=?_) (k:=?_))
 ·try dsimp only
  exact Yl _
 rintro i hi
 try dsimp only[Yd,Ye]at*
 refine gk (k:=wi_ (k:=fun h2=>?_) (m:=fun h2=>?_))
 ·obtain⟨s,x,hli,hxi,hsl⟩:=hl.get (i:=i) (aa)
  have hfl:=qW hxi
  have hle:=wN xs (i+1)
  have hcp:=DB hxi
  rw[hfl,Ya]at hle
  have hfn:=ik (full:=xs.flatten) (z:=0) (i:=(xs.take i).flatten.length) (aa)
  refine wk_ (qn_ (ws_ (wb_ (ws_ (wr_ (e_ ixa (k:=e_ lel (k:=e_ asn (k:=on_ (qn_ (wr_ (e_ mv (k:=e_ mv (k:=?_))))))))))))))
  refine e_ mv (k:=?_)
  refine e_ (eL rfl (bQ) (xs.take i).flatten.length xs.flatten.length ⟨_,_,rfl,rfl⟩ (by rw[hfn]) (aa) (aa)) (k:=?_)
  refine go ?_
  refine s_ (BM (a:=(xs.take i).flatten.length) (b:=xs.flatten.length) rfl rfl (bQ) (aa) (aa) x.length (aa)) (k:=?_)
  rintro _ _ ⟨rfl,rfl⟩
  rw[hcp]
  refine e_ iad (k:=e_ asn (k:=on_ (bn_ (qn_ (wr_ (?_))))))
  rw[show(((xs.take i).flatten.length:Nat):Int)+((x.length:Nat):Int)=(((xs.take (i+1)).flatten.length:Nat):Int)from by rw[hfl,Ya];omega]
  refine go ?_
  refine ln_ (i+1) (k:=?_)
  try dsimp only
  omega
 obtain rfl:i=l.length:=aa
 rw[show xs.take l.length=xs from by rw[hlx,List.take_length],kE]
 refine gk (k:=rt_ Tryz.results68 (k:=?_))
 exact⟨_,hsb,s22,rfl,rfl⟩
theorem M9 {G:cK}{H:cG}{s:SV}{l:List (Nat×SV)}{ps:List Po} [hg:Glb G H] [hs:Sl H s ePo l] (hp:qz H l ps) (hok:fW 0 ps) (hsm:e8 ps) (ht:dg ps≤1000000000):SC G Tryz.prog 174 [s.val] H (fun v H'=> ∃s':SV,v= .tuple #[s'.val, .nilIface]∧H'=Row s' eB (dx ps)::H):=by
 have hpl:=hp.1
 have hT:∀i,dg (ps.take i)≤dg ps:=fun i=> by
  conv=> rhs;rw[←List.take_append_drop i ps,jz]
  omega
 have hpn:=hsm.1
 refine sWk Tryz.func174 Tryz.ntmps174 ?_
 refine go ?_
 refine gk (k:=dt (Nat) (fun y=> y≤l.length) (fun y=> [(4, .int .i64 (((dS 0 (ps.take y):Nat):Int) - 1)),(5, .int .i64 ((dg (ps.take y):Nat):Int)),(18, .int .i64 ((y:Nat):Int))]) [(0,_),(16,_),(17,_)] (fun y=> []) _ (fun y=> l.length - y) (0) (h0:=?_) (k:=?_))
 ·try dsimp only
  exact Yl _
 rintro i hi
 try dsimp only[Yd,Ye]at*
 refine gk (k:=wi_ (k:=fun h1=>?_) (m:=fun h1=>?_))
 ·obtain⟨sp,pos,hli,hpi,hsl⟩:=hp.get (i:=i) (aa)
  generalize (ps.getD i (0, [])).1=d at hli hpi
  obtain⟨hge,hne,hokp⟩:=ij hok hpi
  have hsmi:=hsm.2 _ (Yj hpi)
  simp only at hge hsmi hne hokp
  have hposl:=dO pos
  have htk:=o9 hpi
  have hTi:=hT (i+1)
  simp only at htk
  refine gk (k:=alc (k:=fun b7=>?_))
  refine go ?_
  refine d2_ rfl (IB hsmi.1 hge hne hokp hsmi.2.1) (k:=e_ asn (k:=on_ (qn_ (ws_ (wr_ (e_ mv (k:=?_)))))))
  refine e_ (cM rfl) (k:=?_)
  refine on_ (qn_ (eg (k:=wk_ (qn_ (ws_ (wr_ (e_ fla (k:=e_ ldv (k:=e_ asn (k:=on_ (qn_ (wr_ (e_ mv (k:=?_))))))))))))))
  refine e_ fla (k:=e_ ldv (k:=e_ lnn (k:=e_ iad (k:=e_ asn (k:=on_ (bn_ (qn_ (wr_ (?_)))))))))
  have hlast:dS 0 (ps.take (i+1))=d+1:=pd hpi
  rw[show((d:Nat):Int)=((dS 0 (ps.take (i+1)):Nat):Int) - 1 from by rw[hlast];omega,show((dg (ps.take i):Nat):Int)+(((cV pos).length:Nat):Int)=((dg (ps.take (i+1)):Nat):Int)from aa]
  refine go ?_
  refine ln_ (i+1) (k:=?_)
  try dsimp only
  omega
 obtain rfl:i=l.length:=aa
 rw[show ps.take l.length=ps from by rw[hpl,List.take_length]]
 refine go ?_
 refine c0_ rfl (fM) (k:=?_)
 rintro _ _ ⟨bh,rfl,rfl⟩
 refine c0_ rfl (fM) (k:=?_)
 rintro _ _ ⟨bb,rfl,rfl⟩
 refine e_ asn (k:=e_ asn (k:=on_ (qn_ (ws_ (wr_ (e_ mv (k:=e_ mv (k:=e_ lnn (k:=?_)))))))))
 refine e_ ((ae)) (k:=?_)
 refine d2_ rfl (ek l.length (aa) (an)) (k:=on_ (qn_ (ws_ (wr_ (e_ mv (k:=e_ mv (k:=?_)))))))
 refine e_ ((ae)) (k:=?_)
 refine d2_ rfl (ek _ (aa) (by have:=ef (n:=l.length) (k:=6) (aa) (aa);simp only[Ya,Yc];omega)) (k:=on_ (qn_ (ws_ (wr_ (?_)))))
 obtain⟨hd,hhd⟩:∃hd,hd= []++uv l.length++uv (dg ps):=⟨_,rfl⟩
 have hhl:hd.length≤12:=by
  have h1:=ef (n:=l.length) (k:=6) (aa) (aa)
  have h2:=ef (n:=dg ps) (k:=6) (aa) (aa)
  rw[hhd];simp only[Ya,Yc];omega
 rw[←hhd,show Wr bh hd=Wr bh (hd++(cO ps 0).2.1)from by simp[cO],show Wr bb []=Wr bb (cO ps 0).2.2 from rfl]
 have hST:=iA hsm
 have hbk:16*dk ps≤ps.length+15:=cp
 refine gk (k:=dt (Nat) (fun y=> y≤dk ps) (fun y=> [(11, .int .i64 ((((cO ps y).1:Nat):Int) - 1)),(12, .int .i64 ((16*y:Nat):Int))]) [(0,_),(9,_),(10,_)] (fun y=> [Wr bh (hd++(cO ps y).2.1),Wr bb (cO ps y).2.2]) _ (fun y=> dk ps - y) (0) (h0:=?_) (k:=?_))
 ·try dsimp only
  exact Yl _
 rintro k hk
 try dsimp only[Yd,Ye]at*
 refine gk (k:=wi_ (k:=fun h2=>?_) (m:=fun h2=>?_))
 ·have hlt:16*k<ps.length:=by omega
  have hkb:k<dk ps:=cp
  obtain⟨hS1,hS2,hS3⟩:=hST k
  have htk:=hT (16*k)
  have hlk:(ps.take (16*k)).length≤ps.length:=aA
  have hblen:=m9 ps k
  have hbs:=m7 hsm k
  have hbT:dg (de ps k)≤dg ps:=by
   have:=hT (16*(k+1))
   rw[←jt,jz]at this;omega
  have hbl:=qt (nb:=(cO ps k).1) hbs
  have hcut:=hp.cut (16*k) (16*k+16)
  rw[show(ps.take (16*k+16)).drop (16*k)=de ps k from rfl]at hcut
  have hcl:=hcut.1
  obtain⟨q,hq⟩:∃q,(de ps k).getLast? =some q:=by
   rcases List.eq_nil_or_concat (de ps k)with h|⟨c,q,h⟩
   ·rw[h]at hblen;simp at hblen;omega
   ·exact⟨q,by rw[h];simp⟩
  have hql:dS (cO ps k).1 (de ps k)=q.1+1:=by rw[dS,hq]
  have hq2:(de ps k)[(de ps k).length - 1]? =some q:=by rw[←List.getLast?_eq_getElem?];exact hq
  obtain⟨pl,hpl2⟩:∃p,((l.take (16*k+16)).drop (16*k))[((l.take (16*k+16)).drop (16*k)).length - 1]? =some p:=⟨_,Yi (aa)⟩
  have hpq:=(hcut.2 _ _ _ hpl2 (by rw[hcl];exact hq2)).1
  have hqs:=(hbs.2 q (List.mem_of_getLast? hq)).1
  have hqge:(cO ps k).1≤q.1:=by
   have:=(ij (kP hok k) hq2).1
   have h0:=ij (kP hok k) (i:=0) (Yi (aa))
   exact BT (kP hok k) q (List.mem_of_getLast? hq)
  refine wk_ (qn_ (ws_ (wb_ (ws_ (wr_ (e_ mv (k:=e_ mv (k:=e_ mv (k:=e_ iad (k:=e_ mv (k:=e_ lnn (k:=?_))))))))))))
  refine e_ (mN rfl rfl) (k:=?_)
  refine kW H rfl (16*k) (min (16*k+16) l.length) ⟨_,_,rfl,(aN)⟩ ⟨_,_,rfl,(aN)⟩ (aa) (aP) rfl (fun sb ib=>?_)
  rw[xB]at ib
  refine go ?_
  refine c2_ rfl (Ix hcut.tail.tail (kP hok k) hbs (aa) (aa)) (k:=?_)
  rintro _ _ ⟨s63,rfl,rfl⟩
  refine e_ asn (k:=on_ (qn_ (ws_ (wr_ (e_ mv (k:=e_ mv (k:=e_ lnn (k:=e_ isb (k:=e_ (ixa (i:=((l.take (16*k+16)).drop (16*k)).length - 1)) (k:=e_ fle (k:=e_ lfl (k:=e_ asn (k:=on_ (?_))))))))))))))
  refine qn_ (ws_ (wr_ (e_ mv (k:=e_ mv (k:=e_ mv (k:=e_ isb (k:=?_)))))))
  refine e_ (evq isb (congrArg (Value.int .i64) (show _=((dS (cO ps k).1 (de ps k) - 1 - (cO ps k).1:Nat):Int)from aa))) (k:=?_)
  refine e_ ((ae)) (k:=?_)
  refine d2_ rfl (ek _ (aa) (ai)) (k:=?_)
  have hu1:=ef (n:=dS (cO ps k).1 (de ps k) - 1 - (cO ps k).1) (k:=6) (aa) (aa)
  refine on_ (qn_ (ws_ (wr_ (e_ mv (k:=e_ mv (k:=e_ lnn (k:=?_)))))))
  refine e_ ((ae)) (k:=?_)
  refine d2_ rfl (ek _ (aa) (ai)) (k:=go ?_)
  refine d2_ rfl (zW (aa) (aa)) (k:=on_ (qn_ (wr_ (e_ mv (k:=e_ asn (k:=on_ (bn_ (qn_ (wr_ (?_))))))))))
  rw[show hd++(cO ps k).2.1++uv (dS (cO ps k).1 (de ps k) - 1 - (cO ps k).1)++uv (jN (cO ps k).1 (de ps k)).length=hd++(cO ps (k+1)).2.1 from by simp[cO],show(cO ps k).2.2++jN (cO ps k).1 (de ps k)=(cO ps (k+1)).2.2 from rfl]
  rw[show((pl.1:Nat):Int)=(((cO ps (k+1)).1:Nat):Int) - 1 from by rw[show(cO ps (k+1)).1=dS (cO ps k).1 (de ps k)from rfl];omega,show((16*k:Nat):Int)+16=((16*(k+1):Nat):Int)from aa]
  refine go ?_
  refine ln_ (k+1) (k:=?_)
  try dsimp only
  omega
 obtain rfl:k=dk ps:=by unfold dk at*;omega
 obtain⟨hS1,hS2,hS3⟩:=hST (dk ps)
 rw[n5]at hS2
 refine go ?_
 refine c1_ rfl (iv (ai)) (k:=?_)
 rintro _ _ ⟨s88,rfl,rfl⟩
 refine go ?_
 refine c1_ rfl (iv (aa)) (k:=?_)
 rintro _ _ ⟨s90,rfl,rfl⟩
 refine s_ (D1 eSV rfl rfl rfl) (k:=?_)
 rintro _ _ ⟨s91,rfl,rfl⟩
 refine c1_ rfl (Kt (xs:= [hd++(cO ps (dk ps)).2.1,(cO ps (dk ps)).2.2]) HM (an) (aM)) (k:=?_)
 rintro _ _ ⟨s92,rfl,rfl⟩
 rw[show [hd++(cO ps (dk ps)).2.1,(cO ps (dk ps)).2.2].flatten=dx ps from by rw[hhd,hpl];simp[dx]]
 refine gk (k:=rt_ Tryz.results174 (k:=?_))
 exact⟨_,hsb,s92,rfl,rfl⟩
def eSk:Enc (Nat×Nat×Nat×Nat):=⟨fun p=> [.int .i64 ((p.1:Nat):Int), .int .i64 ((p.2.1:Nat):Int), .int .i64 ((p.2.2.1:Nat):Int), .int .i64 ((p.2.2.2:Nat):Int)],4,true,fun _=> rfl,fun p v h=> by simp at h;rcases h with rfl|rfl|rfl|rfl <;> rfl,ag,fun h=> aG,ag⟩
instance {p:Nat×Nat×Nat×Nat}:jG eSk p (.agg [.int .i64 ((p.1:Nat):Int), .int .i64 ((p.2.1:Nat):Int), .int .i64 ((p.2.2.1:Nat):Int), .int .i64 ((p.2.2.2:Nat):Int)].toArray):=⟨rfl⟩
end Go.Sx
