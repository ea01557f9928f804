import Derived.Test.YtcbidldebfibkaaGreatDoorQ25
set_option linter.unusedVariables false
set_option linter.unusedSimpArgs false
set_option linter.unusedSectionVars false
set_option linter.unnecessarySimpa false
set_option maxHeartbeats 0
namespace Go.Sx
open Go Go.Proofs
set_option maxRecDepth 100000
abbrev Val:=ByteArray×ByteArray
abbrev Doc:=Int×List Val
def eD:Enc (Int×SV):=⟨fun p=> [.int .i64 p.1,p.2.val],2,true,fun _=> rfl,fun p v h=> by simp at h;rcases h with rfl|rfl <;> rfl,ag,fun h=> aR,ag⟩
instance {p:Int×SV}:kK eD p (.agg [.int .i64 p.1,p.2.val].toArray):=⟨rfl⟩
instance {d:Int}{s:SV}:fH eD (.agg [.int .i64 d,s.val].toArray) (d,s):=⟨rfl⟩
def fL (H:cG) (l:List (Int×SV)) (ds:List Doc):Prop:=l.length=ds.length∧∀(i:Nat) (p:Int×SV) (q:Doc),l[i]? =some p→ds[i]? =some q→p.1=q.1∧Sl H p.2 eVl q.2
theorem fL.get {H:cG}{l:List (Int×SV)}{ds:List Doc}(h:fL H l ds) {i:Nat}(hi:i<l.length):∃d s vs,l[i]? =some (d,s)∧ds[i]? =some (d,vs)∧Sl H s eVl vs:=by
 obtain⟨p,hp⟩:∃p,l[i]? =some p:=⟨_,Yi hi⟩
 obtain⟨q,hq⟩:∃q,ds[i]? =some q:=⟨_,Yi (by rw[←h.1];exact hi)⟩
 obtain⟨h1,h2⟩:=h.2 i p q hp hq
 exact⟨p.1,p.2,q.2,hp,by rw[hq,h1],h2⟩
theorem fL.tail {H:cG}{A:Hp}{l:List (Int×SV)}{ds:List Doc}(h:fL H l ds):fL (A::H) l ds:=⟨h.1,fun i p q hp hq=> by
 obtain⟨h1,h2⟩:=h.2 i p q hp hq
 exact⟨h1,Sl.tail⟩⟩
def dsz (ds:List Doc):Nat:=(ds.map fun d=> vsz d.2).sum
theorem wZ (ds:List Doc) (i:Nat):dsz (ds.take i)≤dsz ds:=by
 rw[dsz,dsz,List.map_take];exact nJ _ _
theorem ni {ds:List Doc}{d:Doc}(h:d∈ds):vsz d.2≤dsz ds:=by
 induction ds with
 |nil=> simp at h
 |cons e ds ih=>
  simp only[dsz,List.map_cons,List.sum_cons]at ih⊢
  rcases List.mem_cons.1 h with rfl|h
  ·omega
  ·have:=ih h;omega
theorem mF (fs:List FV) (k:Nat) (vs:List Val):(dF fs k vs).length≤vsz vs:=by
 unfold dF
 split
 ·rename_i p hp
  have:=wP p vs vs.length _ _ rfl
  rw[List.take_length]at this
  exact this.2
 ·simp
def nB (fs:List FV) (f k:Nat) (vs:List Val):List Tri:=(dF fs f vs).map fun t=> (cF (sE f (dO t.text)),k,t.pos)
def fN (fs:List FV) (f:Nat):Nat→List Doc→List Tri
 |_, []=> []
 |k,d::r=> nB fs f k d.2++fN fs f (k+1) r
theorem uI (fs:List FV) (f:Nat):∀(l:List Doc) (k:Nat) (d:Doc),fN fs f k (l++ [d])=fN fs f k l++nB fs f (k+l.length) d.2
 | [],k,d=> by simp[fN]
 |e::l,k,d=> by
  rw[Yd,fN,uI fs f l (k+1) d,fN,Yf,Yb,show k+1+l.length=k+(l.length+1)from a8]
theorem Au {fs:List FV}{f i:Nat}{ds:List Doc}{d:Doc}(h:ds[i]? =some d):fN fs f 0 (ds.take (i+1))=fN fs f 0 (ds.take i)++nB fs f i d.2:=by
 have hi:=(Yk.1 h).1
 rw[cP h,uI,Yg,Nat.min_eq_left (a8),Nat.zero_add]
theorem rC (fs:List FV) (f:Nat):∀(l:List Doc) (k:Nat),(fN fs f k l).length≤dsz l
 | [],_=> by simp[fN]
 |d::l,k=> by
  have h1:=rC fs f l (k+1)
  have h2:=mF fs f d.2
  simp only[fN,dsz,nB,Ya,Yh,List.map_cons,List.sum_cons]at*
  omega
def gA (fs:List FV) (ds:List Doc):List Tri:=(List.range fs.length).flatMap fun f=> fN fs f 0 ds
def lk (fs:List FV) (ds:List Doc) (f:Nat):List Tri:=(List.range f).flatMap fun f=> fN fs f 0 ds
theorem oq (fs:List FV) (ds:List Doc) (f:Nat):lk fs ds (f+1)=lk fs ds f++fN fs f 0 ds:=by simp[lk,List.range_succ]
theorem ya (fs:List FV) (ds:List Doc):∀f,(lk fs ds f).length≤f*dsz ds
 | 0=> by simp[lk]
 |f+1=> by
  have h1:=ya fs ds f
  have h2:=rC fs f ds 0
  rw[oq,Ya,Nat.add_mul,Nat.one_mul];omega
def dT (fs:List FV) (ds:List Doc) (f:Nat):List Nat:=ds.map fun d=> (dF fs f d.2).length
theorem zo {p:FV}{w:List Nat}{t:Tok}(h:t∈dY p w):t.text.length≤64:=by
 rw[dY]at h
 split at h
 ·obtain⟨t0,h0,hk⟩:=List.mem_filterMap.1 h
  rw[kz]at hk
  split at hk
  ·split at hk
   ·obtain rfl:=Option.some.inj hk;assumption
   ·cases hk
  ·cases hk
 ·split at h
  ·split at h
   ·simp at h;subst h;assumption
   ·simp at h
  ·split at h
   ·split at h
    ·simp at h;subst h;rw[mx];decide
    ·simp at h
   ·simp at h
theorem oy (p:FV) (vs:List Val):∀i,∀t∈(fm p vs i).2,t.text.length≤64
 | 0,t,h=> by simp[fm]at h
 |i+1,t,h=> by
  rw[fm]at h
  split at h
  ·exact oy p vs i t h
  ·split at h
   ·rcases List.mem_append.1 h with h|h
    ·exact oy p vs i t h
    ·obtain⟨t0,h0,rfl⟩:=List.mem_map.1 h
     exact zo (t:=t0) h0
   ·exact oy p vs i t h
theorem sm {fs:List FV}{k:Nat}{vs:List Val}{t:Tok}(h:t∈dF fs k vs):t.text.length≤64:=by
 unfold dF at h
 split at h
 ·exact oy _ _ _ t h
 ·simp at h
def lnH (z:SV×List Nat):cG:= [Row z.1 eI (dg z.2)]
theorem Bn {l:List (SV×List Nat)}{i:Nat}{z:SV×List Nat}{H:cG}(h:l[i]? =some z):cK (Cl lnH l::H) (Row z.1 eI (dg z.2)::Cl lnH (l.take i)::Cl lnH (l.drop (i+1))::H):=km (f:=lnH) h
theorem F9 {l:List (SV×List Nat)}{i:Nat}(z:SV×List Nat) {H:cG}(hi:i<l.length):cK (Row z.1 eI (dg z.2)::Cl lnH (l.take i)::Cl lnH (l.drop (i+1))::H) (Cl lnH (l.set i z)::H):=qE (f:=lnH) z hi
theorem Ii {l:List (SV×List Nat)}(z:SV×List Nat) {H:cG}:cK (Row z.1 eI (dg z.2)::Cl lnH l::H) (Cl lnH (l++ [z])::H):=lW (f:=lnH) z
theorem F8 {H:cG}:∀n,cK H (Cl lnH (List.replicate n (SV.nil, []))::H)
 | 0=> eA cK.refl
 |n+1=> by
  rw[List.replicate_succ']
  exact((F8 n).trans (cK.nilRow (e:=eI) cK.refl)).trans (Ii (SV.nil, []))
theorem BV {r:Nat}{R:cG}:cK (Mv r []::R) (iX r []::R):=(eA cK.refl).trans (pN (es:= []) fW.nil)
theorem Fa {zs:List (SV×List Nat)}{A:List (List Nat)}{n:Nat}(s:SV) (x:List Nat) (h:zs.map (·.2)=A++List.replicate (n+1) []):(zs.set A.length (s,x)).map (·.2)=A++ [x]++List.replicate n []:=by
 rw[List.map_set,h,List.replicate_succ,List.set_append_right _ _ (Nat.le_refl _),Nat.sub_self]
 simp
theorem AU {G:cM}{H:cG}{fv dv:SV}{fs:List FV}{l:List (Int×SV)}{ds:List Doc} [hf:Sl H fv eF fs] [hd:Sl H dv eD l] [Spc H] (hS:gE G) (hdi:fL H l ds) (hfl:fs.length≤16) (hn:ds.length≤100000) (hq:∀d∈ds,d.2.length≤100000000∧∀v∈d.2,v.2.size≤3000000) (hz:dsz ds≤30000000):
 SC G Tryz.prog 128 [.agg [fv.val].toArray,dv.val] H (fun v H'=> ∃(g:Nat) (lv:SV) (r:Nat) (zs:List (SV×List Nat)),v= .pointer (some ⟨g,0,none⟩)∧zs.map (·.2)=(List.range fs.length).map (dT fs ds)∧H'=Vr g [fv.val,dv.val,lv.val, .map (some r)]::Row lv eSV (zs.map (·.1))::Cl lnH zs::iX r (gA fs ds)::H):=by
 have hll:=hdi.1
 refine sWk Tryz.func128 Tryz.ntmps128 ?_
 refine gk (k:=bxx (k:=fun b2=>?_))
 refine e_ asn (k:=on_ (qn_ (od (Nat×SV×Nat) (fun y=> True) (fun y=> [(5, .pointer (some ⟨y.1,0,none⟩))]) [5,12,13,14,15,16,17,18,19,20] (fun y=> [Vr y.1 [fv.val,dv.val,y.2.1.val, .map (some y.2.2)],Row y.2.1 eSV (List.replicate fs.length SV.nil),Mv y.2.2 []]) (Vr b2 [fv.val]::H) ?_ ?_)))
 ·refine di cL (fun i=> [5,6,8].contains i) (fun k H=> (k=0→dh H b2 [fv.val])∧(k=3→dh H b2 [fv.val])∧(k=4→Sl H fv eF fs)) (?_)
  refine cH 0 rfl rfl (aa) rfl (cE fun H hH=>aF) (?_)
  refine af_ 1 (q:=cE fun H hH=>mv) (k:=af_ 2 (q:=cE fun H hH=>fla) (k:=?_))
  refine cH 3 rfl rfl (aa) rfl (cE fun H hH=>aO) (?_)
  refine cH 4 rfl rfl (aa) rfl (cE fun H hH=>by have hN:=hH.2.2 rfl;exact lnn) (?_)
  refine uO 5 6 rfl rfl (aa) rfl rfl (fun k hk=> ⟨fun hi=> ab,fun hi=> ab,fun hi=> ab⟩) (gD eSV SV.nil rfl rfl _ _ rfl rfl rfl (a8) (a8) (a8)) (tx) ?_ ?_
  ·rintro _ _ ⟨s17,rfl,hs17n,hs17c,rfl⟩
   refine cQ 6 rfl (aa) rfl (fun k hk=> ⟨fun hi=> ab,fun hi=> ab,fun hi=> absurd hk (ad)⟩) (tx) ?_
   rintro _ _ ⟨m18,rfl,rfl⟩
   refine af_ 7 (q:=cE fun H hH=>bld [(0,_),(1,_),(2,_),(3,_)]) (k:=?_)
   refine cQ 8 rfl (aa) rfl (fun k hk=> ⟨fun hi=> ab,fun hi=> ab,fun hi=> absurd hk (ad)⟩) (wq rfl) ?_
   rintro _ _ ⟨b20,rfl,rfl⟩
   refine af_ 9 (q:=cE fun H hH=>asn) (k:=db (aa) (fun k hk=> ⟨fun hi=> ab,fun hi=> ab,fun hi=> absurd hk (ad)⟩) (jnE ((b20,s17,m18)) (q:=?_)))
   trivial
  rintro _ _ ⟨m18,rfl,rfl⟩
  refine cQ 5 rfl (aa) rfl (fun k hk=> ⟨fun hi=> ab,fun hi=> ab,fun hi=> ab⟩) (gD eSV SV.nil rfl rfl _ _ rfl rfl rfl (a8) (a8) (a8)) ?_
  rintro _ _ ⟨s17,rfl,hs17n,hs17c,rfl⟩
  refine af_ 7 (q:=cE fun H hH=>bld [(0,_),(1,_),(2,_),(3,_)]) (k:=?_)
  refine cQ 8 rfl (aa) rfl (fun k hk=> ⟨fun hi=> ab,fun hi=> ab,fun hi=> absurd hk (ad)⟩) (wq rfl) ?_
  rintro _ _ ⟨b20,rfl,rfl⟩
  refine af_ 9 (q:=cE fun H hH=>asn) (k:=db (aa) (fun k hk=> ⟨fun hi=> ab,fun hi=> ab,fun hi=> absurd hk (ad)⟩) (jnE ((b20,s17,m18)) (q:=?_)))
  trivial
 rintro⟨g,lv,r⟩ -
 try dsimp only[Yd,Ye]at*
 refine ws_ (ws_ (wr_ (?_)))
 refine dE (cK.keep (cK.keep BV)) ?_
 refine dE (F8 fs.length) ?_
 rw[show List.replicate fs.length SV.nil=(List.replicate fs.length ((SV.nil, []):SV×List Nat)).map (·.1)from aj,show iX r []=iX r (lk fs ds 0)from rfl]
 refine gk (k:=dn (Nat×(List (SV×List Nat))) (fun y=> y.1≤fs.length∧y.2.map (·.2)=(List.range y.1).map (dT fs ds)++List.replicate (fs.length - y.1) []) (fun y=> [(24, .int .i64 ((y.1:Nat):Int))]) [(1,_),(2,_),(5,_),(23,_)] (fun y=> [Row lv eSV (y.2.map (·.1)),Cl lnH y.2,iX r (lk fs ds y.1)]) _ (fun y=> fs.length - y.1) ((0,List.replicate fs.length (SV.nil, []))) (h0:=?_) (k:=?_))
 ·try dsimp only
  exact⟨Yl _,aj⟩
 rintro⟨f,zs⟩ ⟨hf1,hzs⟩
 try dsimp only[Yd,Ye]at*
 refine gk (k:=wi_ (k:=fun h1=>?_) (m:=fun h1=>?_))
 ·have hzl:zs.length=fs.length:=by have:=congrArg List.length hzs;simp at this;omega
  obtain⟨z,hz⟩:∃z,zs[f]? =some z:=⟨_,Yi (a8)⟩
  have hml:(zs.map (·.1)).length=zs.length:=Yh ..
  have hln:(dg (dT fs ds f)).length=l.length:=by rw[dX,dT,Yh,hll]
  obtain⟨n0,hn0⟩:∃n0,fs.length - f=n0+1:=⟨fs.length - f - 1,a8⟩
  have hnx:=fun s=> Fa (A:=(List.range f).map (dT fs ds)) s (dT fs ds f) (by rw[←hn0];exact hzs)
  rw[Yh,List.length_range]at hnx
  refine go ?_
  refine di cL (fun i=> [7,9].contains i) (fun k H=> (k=2→dh H g [fv.val,dv.val,lv.val, .map (some r)])∧(k=3→dh H g [fv.val,dv.val,lv.val, .map (some r)])∧(k=6→Sl H dv eD l)∧(k=8→Sl H lv eSV (zs.map (·.1)))) (af_ 0 (q:=cE fun H hH=>mv) (k:=af_ 1 (q:=cE fun H hH=>nck) (k:=?_)))
  refine cH 2 rfl rfl (aa) rfl (cE fun H hH=>bm) (?_)
  refine cH 3 rfl rfl (aa) rfl (cE fun H hH=>aO) (?_)
  refine af_ 4 (q:=cE fun H hH=>mv) (k:=af_ 5 (q:=cE fun H hH=>mv) (k:=?_))
  refine cH 6 rfl rfl (aa) rfl (cE fun H hH=>by have hN:=hH.2.2.1 rfl;exact lnn) (?_)
  refine cQ 7 rfl (aa) rfl (fun k hk=> ⟨fun hi=> ab,fun hi=> ab,fun hi=> ab,fun hi=> ab⟩) (gD eI 0 rfl rfl _ _ rfl rfl rfl (a8) (a8) (a8)) ?_
  rintro _ _ ⟨s34,rfl,hs34n,hs34c,rfl⟩
  refine cH 8 rfl rfl (aa) rfl (cE fun H hH=>by have hN:=hH.2.2.2 rfl;exact ixa) (?_)
  refine cQ 9 rfl (aa) rfl (fun k hk=> ⟨fun hi=> ab,fun hi=> ab,fun hi=> absurd hk (ad),fun hi=> ab⟩) (fo (i:=f) rfl rfl rfl (a8)) ?_
  rintro _ _ ⟨rfl,rfl⟩
  refine db (aa) (fun k hk=> ⟨fun hi=> absurd hk (ad),fun hi=> absurd hk (ad),fun hi=> absurd hk (ad),fun hi=> absurd hk (ad)⟩) (qn_ (ws_ (wr_ (?_))))
  rw[show(zs.map (·.1)).set f s34=(zs.set f (s34,dT fs ds f)).map (·.1)from by rw[List.map_set],show Row s34 eI (List.replicate l.length (0:Int))=Row s34 eI (gb (dg (dT fs ds f)) 0 0)from by rw[oz,hln],show iX r (lk fs ds f)=iX r (lk fs ds f++fN fs f 0 (ds.take 0))from by simp[fN]]
  refine dE (eV (A:=Cl lnH zs) inferInstance ((Bn hz).trans (cK.drop cK.refl))) ?_
  have hlvf:((zs.set f (s34,dT fs ds f)).map (·.1))[f]? =some s34:=by rw[Xd,List.getElem?_set_self (a8)];all_goals rfl
  have hlvl:((zs.set f (s34,dT fs ds f)).map (·.1)).length=fs.length:=by rw[Yh,List.length_set,hzl]
  refine gk (k:=dn (Nat) (fun y=> y≤l.length) (fun y=> [(38, .int .i64 ((y:Nat):Int))]) [(1,_),(2,_),(5,_),(6,_),(23,_),(24,_),(36,_),(37,_)] (fun y=> [Row s34 eI (gb (dg (dT fs ds f)) 0 y),iX r (lk fs ds f++fN fs f 0 (ds.take y))]) _ (fun y=> l.length - y) (0) (h0:=?_) (k:=?_))
  ·try dsimp only
   exact Yl _
  rintro j hj
  try dsimp only[Yd,Ye]at*
  refine gk (k:=wi_ (k:=fun h2=>?_) (m:=fun h2=>?_))
  ·obtain⟨d,s,vs,hlj,hdj,hsl⟩:=hdi.get (i:=j) (a8)
   have hmem:=Yj hdj
   obtain⟨hq1,hq2⟩:=hq _ hmem
   have hvz:=ni hmem
   have hfl2:=mF fs f vs
   have hp1:=ya fs ds f
   have hp2:=rC fs f (ds.take j) 0
   have hp3:=wZ ds j
   have hp4:f*dsz ds≤16*dsz ds:=Nat.mul_le_mul_right _ (a8)
   have hg1:(dg (dT fs ds f))[j]? =some (((dF fs f vs).length:Nat):Int):=eE (by rw[dT,Xd,hdj];all_goals rfl)
   have hfll:=nW (full:=dg (dT fs ds f)) (z:=(0:Int)) (i:=j) (a8)
   simp only at hq1 hq2 hvz
   refine gk (k:=alc (k:=fun b8=>?_))
   refine go ?_
   refine c3_ rfl (JP hS (a8) (a8) hq1 hq2 (a8)) (k:=?_)
   rintro _ _ ⟨s47,rfl,rfl⟩
   refine e_ asn (k:=on_ (qn_ (ws_ (wr_ (e_ mv (k:=e_ nck (k:=e_ fla (k:=e_ ldv (k:=e_ mv (k:=e_ ixa (k:=e_ (lel (hy:=hlvf)) (k:=go ?_))))))))))))
   refine go ?_
   refine s_ (fo (i:=j) rfl rfl rfl (a8)) (k:=?_)
   rintro _ _ ⟨rfl,rfl⟩
   rw[qq hg1]
   refine on_ (qn_ (ws_ (wr_ (?_))))
   rw[show iX r (lk fs ds f++fN fs f 0 (ds.take j))=iX r (lk fs ds f++fN fs f 0 (ds.take j)++(nB fs f j vs).take 0)from aj]
   refine gk (k:=dn (Nat) (fun y=> y≤(dF fs f vs).length) (fun y=> [(61, .int .i64 ((y:Nat):Int))]) [(1,_),(2,_),(5,_),(6,_),(7,_),(23,_),(24,_),(36,_),(37,_),(38,_),(59,_),(60,_)] (fun y=> [iX r (lk fs ds f++fN fs f 0 (ds.take j)++(nB fs f j vs).take y)]) _ (fun y=> (dF fs f vs).length - y) (0) (h0:=?_) (k:=?_))
   ·try dsimp only
    exact Yl _
   rintro m hm
   try dsimp only[Yd,Ye]at*
   refine gk (k:=wi_ (k:=fun h3=>?_) (m:=fun h3=>?_))
   ·obtain⟨t,ht⟩:∃t,(dF fs f vs)[m]? =some t:=⟨_,Yi (a8)⟩
    have htl:=sm (Yj ht)
    have htk:(nB fs f j vs).take (m+1)=(nB fs f j vs).take m++ [(cF (sE f (dO t.text)),j,t.pos)]:=by simp only[nB,←List.map_take];exact lQ ht
    have htl3:((nB fs f j vs).take m).length≤(dF fs f vs).length:=by rw[Yg,nB,Yh];omega
    have hTl:(lk fs ds f++fN fs f 0 (ds.take j)++(nB fs f j vs).take m).length≤1000000000:=ah
    have hsz:=fg t.text
    refine gk (k:=alc (k:=fun b11=>?_))
    refine go ?_
    refine di cL (fun i=> [8].contains i) (fun k H=> (k=2→dh H b11 [.string (dO t.text), .int .i64 ((t.value:Nat):Int), .int .i64 ((t.pos:Nat):Int), .int .i64 ((t.st:Nat):Int), .int .i64 ((t.en:Nat):Int)])∧(k=3→dh H b11 [.string (dO t.text), .int .i64 ((t.value:Nat):Int), .int .i64 ((t.pos:Nat):Int), .int .i64 ((t.st:Nat):Int), .int .i64 ((t.en:Nat):Int)])∧(k=6→dh H b11 [.string (dO t.text), .int .i64 ((t.value:Nat):Int), .int .i64 ((t.pos:Nat):Int), .int .i64 ((t.st:Nat):Int), .int .i64 ((t.en:Nat):Int)])∧(k=7→dh H b11 [.string (dO t.text), .int .i64 ((t.value:Nat):Int), .int .i64 ((t.pos:Nat):Int), .int .i64 ((t.st:Nat):Int), .int .i64 ((t.en:Nat):Int)])) (af_ 0 (q:=cE fun H hH=>mv) (k:=af_ 1 (q:=cE fun H hH=>mv) (k:=?_)))
    refine cH 2 rfl rfl (aa) rfl (cE fun H hH=>bm) (?_)
    refine cH 3 rfl rfl (aa) rfl (cE fun H hH=>aO) (?_)
    refine cH 4 rfl rfl (aa) rfl (fun H _=> j9 (vs:= [_,_]) rfl (MN (a8)) H rfl) (?_)
    refine af_ 5 (q:=cE fun H hH=>mv) (k:=?_)
    refine cH 6 rfl rfl (aa) rfl (cE fun H hH=>by have hN:=hH.2.2.1 rfl;exact fla) (?_)
    refine cH 7 rfl rfl (aa) rfl (cE fun H hH=>by have hN:=hH.2.2.2 rfl;exact ldv) (?_)
    refine cQ 8 rfl (aa) rfl (fun k hk=> ⟨fun hi=> ab,fun hi=> ab,fun hi=> ab,fun hi=> ab⟩) (dm (vs:= [_,_,_,_]) rfl (ML (r:=r) hTl)) ?_
    rintro _ _ ⟨rfl,rfl⟩
    rw[Yf,←htk]
    refine db (aa) (fun k hk=> ⟨fun hi=> ab,fun hi=> ab,fun hi=> ab,fun hi=> absurd hk (ad)⟩) (go ?_)
    refine ln_ (m+1) (k:=?_)
    try dsimp only
    omega
   obtain rfl:m=(dF fs f vs).length:=a8
   rw[Yf,show fN fs f 0 (ds.take j)++(nB fs f j vs).take (dF fs f vs).length=fN fs f 0 (ds.take (j+1))from by rw[Au hdj,show(nB fs f j vs).take (dF fs f vs).length=nB fs f j vs from List.take_of_length_le (by simp[nB])]]
   refine go ?_
   refine ln_ (j+1) (k:=?_)
   try dsimp only
   omega
  obtain rfl:j=l.length:=a8
  rw[show gb (dg (dT fs ds f)) 0 l.length=dg (dT fs ds f)from by rw[←hln,nX],show ds.take l.length=ds from by rw[hll,List.take_length],←oq]
  refine we_ (qe_ (le_ (bh_ (bn_ (qn_ (wr_ (?_)))))))
  refine dE (cK.trans (H':=Row s34 eI (dg (dT fs ds f))::Cl lnH (zs.take f)::Cl lnH (zs.drop (f+1))::Row lv eSV ((zs.set f (s34,dT fs ds f)).map (·.1))::iX r (lk fs ds (f+1))::Vr g [fv.val,dv.val,lv.val, .map (some r)]::Vr b2 [fv.val]::H) (hsb) (F9 (s34,dT fs ds f) (a8))) ?_
  refine go ?_
  refine ln_ ((f+1,zs.set f (s34,dT fs ds f))) (k:=?_)
  try dsimp only
  exact⟨a8,by rw[hnx s34,List.range_succ,List.map_append,show fs.length - (f+1)=n0 from a8];all_goals rfl⟩
 obtain rfl:f=fs.length:=a8
 rw[Nat.sub_self,List.replicate_zero,Ym]at hzs
 rw[show lk fs ds fs.length=gA fs ds from rfl]
 refine gk (k:=rt_ Tryz.results128 (k:=?_))
 exact⟨_,hsb,g,lv,r,zs,rfl,hzs,rfl⟩
abbrev kJ:=List Nat×List Po
def gT:Nat→List kJ→List En
 |_, []=> []
 |n,p::r=> ⟨dO p.1,p.2.length,dx p.2,n,(j7 p.2).length⟩::gT (n+(j7 p.2).length) r
def ez (rs:List kJ):List Nat:=rs.flatMap fun p=> j7 p.2
theorem iR:∀(rs:List kJ) (n:Nat),(gT n rs).length=rs.length
 | [],_=> rfl
 |p::r,n=> by simp[gT,iR r]
theorem nP {rs:List kJ}{i:Nat}{p:kJ}(h:rs[i]? =some p):ez (rs.take (i+1))=ez (rs.take i)++j7 p.2:=by rw[cP h];simp[ez]
theorem oD:∀{rs:List kJ}{n i:Nat}{p:kJ},rs[i]? =some p→(gT n rs)[i]? =some ⟨dO p.1,p.2.length,dx p.2,n+(ez (rs.take i)).length,(j7 p.2).length⟩
 | [],_,_,_,h=> aR
 |q::r,n,0,p,h=> by simp at h;subst h;simp[gT,ez]
 |q::r,n,i+1,p,h=> by
  rw[Xc]at h
  rw[gT,Xc,oD h,List.take_succ_cons]
  simp only[ez,List.flatMap_cons,Ya,Nat.add_assoc]
def fu (fs:List FV) (v:Val):List Nat:=uv ((ga fs (cF v.1)).getD 0)++(uv v.2.size++cF v.2)
def sO (fs:List FV) (d:Doc):List Nat:=uv d.2.length++d.2.flatMap (fu fs)
def fw (fs:List FV) (ds:List Doc):List Nat:=ds.flatMap (sO fs)
def j5 (fs:List FV) (ds:List Doc) (n:Nat):List Nat:=(List.range n).flatMap fun f=> fB (dT fs ds f)
def qi (ds:List Doc):List Nat:=uv ds.length++dz (-1) (ds.map (·.1))
def ld (fs:List FV) (ds:List Doc):List (Nat×List Nat):= [(1,fq fs),(2,qi ds),(3,j5 fs ds fs.length),(4,fU (gT 0 (dy (gA fs ds)))),(5,ez (dy (gA fs ds))),(6,fw fs ds)]
def rb (fs:List FV) (ds:List Doc):List Nat:=jW 83 (ld fs ds)
structure uQ (ts:List Tri):Prop where
 up:UpT ts
 few:ts.length≤100000000
 small:∀t∈ts,t.1.length≤65∧1≤t.1.length∧(∀x∈t.1,x<256)∧t.2.1≤99999∧t.2.2<1099511627776
theorem sT {ts:List Tri}{k:List Nat}{x:Nat×Nat}(h:x∈ofK ts k):(k,x)∈ts:=by
 obtain⟨t,ht,rfl⟩:=List.mem_map.1 h
 obtain⟨h1,h2⟩:=List.mem_filter.1 ht
 have:=Yt h2
 rw[←this];exact h1
theorem yi:∀{l:List Po}{nb m:Nat},jI nb l→(∀p∈l,p.1≤m)→l.length+nb≤m+1∨l= []
 | [],_,_,_,_=> .inr rfl
 |p::r,nb,m,h,hm=> by
  have h1:=hm p (aj)
  rcases yi (m:=m) h.2.2.2 (fun q hq=> hm q (Xa _ hq))with h2|rfl
  ·left;have:=h.1;simp only[Yb];omega
  ·left;have:=h.1;simp only[Yb,Yc];omega
theorem qj {ts:List Tri}(h:uQ ts) {k:List Nat}:jI 0 (jf (ofK ts k))∧fx (jf (ofK ts k))∧dx (jf (ofK ts k))≤ts.length:=by
 obtain⟨h1,h2⟩:=Iq (h.up k)
 obtain⟨h3,h4⟩:=ox (ofK ts k)
 have h5:=wH ts k
 have hd:∀p∈jf (ofK ts k),p.1≤99999:=fun p hp=> by
  obtain⟨i,hi⟩:=List.getElem?_of_mem hp
  have hne:=(j4 h1 hi).2.1
  obtain⟨x,hx⟩:=List.exists_mem_of_ne_nil _ hne
  have:=(h.small _ (sT (h2 p hp x hx))).2.2.2.1
  simpa using this
 refine⟨h1,⟨?_,fun p hp=> ⟨by have:=hd p hp;omega,?_,fun x hx=> (h.small _ (sT (h2 p hp x hx))).2.2.2.2⟩⟩,a8⟩
 ·rcases yi h1 hd with h9|h9
  ·omega
  ·rw[h9];simp
 ·have:∀(l:List Po),p∈l→p.2.length≤dx l:=by
   intro l
   induction l with
   |nil=> intro hh;simp at hh
   |cons q l ih=>
    intro hh
    simp only[dx,List.map_cons,List.sum_cons]at ih⊢
    rcases List.mem_cons.1 hh with rfl|hh
    ·omega
    ·have:=ih hh;omega
  have:=this _ hp
  have:=h.few
  omega
def xc (H:cG) (l:List SV) (xs:List (List Nat)):Prop:=l.length=xs.length∧∀(i:Nat) (s:SV) (x:List Nat),l[i]? =some s→xs[i]? =some x→Sl H s eB x
theorem xc.get {H:cG}{l:List SV}{xs:List (List Nat)}(h:xc H l xs) {i:Nat}(hi:i<l.length):∃s x,l[i]? =some s∧xs[i]? =some x∧Sl H s eB x:=by
 obtain⟨p,hp⟩:∃p,l[i]? =some p:=⟨_,Yi hi⟩
 obtain⟨q,hq⟩:∃q,xs[i]? =some q:=⟨_,Yi (by rw[←h.1];exact hi)⟩
 exact⟨p,q,hp,hq,h.2 i p q hp hq⟩
theorem Gp {H:cG}{s u:SV}{x y:List Nat} [h1:Sl H s eB x] [h2:Sl H u eB y]:xc H [s,u] [x,y]:=⟨rfl,fun i p q hp hq=> by
 match i,hp,hq with
 | 0,hp,hq=> simp at hp hq;subst hp;subst hq;exact h1
 | 1,hp,hq=> simp at hp hq;subst hp;subst hq;exact h2⟩
theorem tr {α:Type}(l:List α) (a b:Nat):(l.take (min b l.length)).drop a=(l.take b).drop a:=by
 rw[←List.take_eq_take_min]
theorem wG:∀{l:List Po}{nb:Nat},jI nb l→∀p∈l,nb≤p.1
 | [],_,_,p,hp=> by simp at hp
 |q::r,nb,h,p,hp=> by
  rcases List.mem_cons.1 hp with rfl|hp
  ·exact h.1
  ·have:=wG h.2.2.2 p hp
   have:=h.1;omega
theorem xc.tail {H:cG}{A:Hp}{l:List SV}{xs:List (List Nat)}(h:xc H l xs):xc (A::H) l xs:=⟨h.1,fun i s x h1 h2=> by have:=h.2 i s x h1 h2;exact Sl.tail⟩
theorem rv {xs:List (List Nat)}{i:Nat}{x:List Nat}(h:xs[i]? =some x):(xs.take (i+1)).flatten=(xs.take i).flatten++x:=by
 rw[cP h];simp
theorem wQ (xs:List (List Nat)) (i:Nat):(xs.take i).flatten.length≤xs.flatten.length:=by
 conv=> rhs;rw[←List.take_append_drop i xs,List.flatten_append,Ya]
 omega
theorem CP {xs:List (List Nat)}{i:Nat}{x:List Nat}(h:xs[i]? =some x):(gb xs.flatten 0 (xs.take i).flatten.length).take (xs.take i).flatten.length++x.take x.length++(gb xs.flatten 0 (xs.take i).flatten.length).drop ((xs.take i).flatten.length+x.length)=gb xs.flatten 0 (xs.take (i+1)).flatten.length:=by
 have hle:=wQ xs (i+1)
 have hfl:=rv h
 rw[hfl,Ya]at hle
 have e:xs.flatten=(xs.take i).flatten++(x++(xs.drop (i+1)).flatten):=by
  rw[←Yf,←hfl,←List.flatten_append,List.take_append_drop]
 have h1:xs.flatten.take (xs.take i).flatten.length=(xs.take i).flatten:=by
  conv=> lhs;rw[e]
  exact List.take_left ..
 have h2:xs.flatten.take (xs.take (i+1)).flatten.length=(xs.take i).flatten++x:=by
  conv=> lhs;rw[e,←Yf,←hfl]
  rw[List.take_left,hfl]
 rw[gb,gb,h1,h2,hfl,Ya,List.take_left,List.take_length,List.drop_append,List.drop_of_length_le (a8),List.drop_replicate]
 simp only[Ye,Nat.add_sub_cancel_left]
 rw[show xs.flatten.length - (xs.take i).flatten.length - x.length=xs.flatten.length - ((xs.take i).flatten.length+x.length)from a8]
theorem IU {G:cM}{H:cG}{p:SV}{l:List SV}{xs:List (List Nat)} [hs:Sl H p eSV l] (hl:xc H l xs) (hm:xs.length≤1000000000) (hn:xs.flatten.length≤1000000000000):SC G Tryz.prog 74 [p.val] H (fun v H'=> ∃s':SV,v=s'.val∧H'=Row s' eB xs.flatten::H):=by
 have hlx:=hl.1
 refine sWk Tryz.func74 Tryz.ntmps74 ?_
 refine go ?_
 refine gk (k:=dn (Nat) (fun y=> y≤l.length) (fun y=> [(3, .int .i64 (((xs.take y).flatten.length:Nat):Int)),(12, .int .i64 ((y:Nat):Int))]) [(0,_),(10,_),(11,_)] (fun y=> []) _ (fun y=> l.length - y) (0) (h0:=?_) (k:=?_))
 ·try dsimp only
  exact Yl _
 rintro i hi
 try dsimp only[Yd,Ye]at*
 refine gk (k:=wi_ (k:=fun h1=>?_) (m:=fun h1=>?_))
 ·obtain⟨s,x,hli,hxi,hsl⟩:=hl.get (i:=i) (a8)
  have hfl:=rv hxi
  have hle:=wQ xs (i+1)
  rw[hfl,Ya]at hle
  refine wk_ (qn_ (ws_ (wb_ (ws_ (wr_ (e_ ixa (k:=e_ lel (k:=e_ asn (k:=on_ (qn_ (wr_ (e_ mv (k:=e_ mv (k:=?_))))))))))))))
  refine e_ lnn (k:=e_ iad (k:=e_ asn (k:=on_ (bn_ (qn_ (wr_ (?_)))))))
  rw[show(((xs.take i).flatten.length:Nat):Int)+((x.length:Nat):Int)=(((xs.take (i+1)).flatten.length:Nat):Int)from by rw[hfl,Ya];omega]
  refine go ?_
  refine ln_ (i+1) (k:=?_)
  try dsimp only
  omega
 obtain rfl:i=l.length:=a8
 rw[show xs.take l.length=xs from by rw[hlx,List.take_length]]
 refine go ?_
 refine s_ (gD eB 0 rfl rfl _ _ rfl rfl rfl (a8) (a8) (a8)) (k:=?_)
 rintro _ _ ⟨s22,rfl,hs22n,hs22c,rfl⟩
 refine e_ asn (k:=on_ (qn_ (ws_ (wr_ (?_)))))
 rw[show Row s22 eB (List.replicate xs.flatten.length 0)=Row s22 eB (gb xs.flatten 0 (xs.take 0).flatten.length)from by simp[gb]]
 refine gk (k:=dn (Nat) (fun y=> y≤l.length) (fun y=> [(7, .int .i64 (((xs.take y).flatten.length:Nat):Int)),(25, .int .i64 ((y:Nat):Int))]) [(6,_),(23,_),(24,_)] (fun y=> [Row s22 eB (gb xs.flatten 0 (xs.take y).flatten.length)]) _ (fun y=> l.length - y) (0) (h0:=?_) (k:=?_))
 ·try dsimp only
  exact Yl _
 rintro i hi
 try dsimp only[Yd,Ye]at*
 refine gk (k:=wi_ (k:=fun h2=>?_) (m:=fun h2=>?_))
 ·obtain⟨s,x,hli,hxi,hsl⟩:=hl.get (i:=i) (a8)
  have hfl:=rv hxi
  have hle:=wQ xs (i+1)
  have hcp:=CP hxi
  rw[hfl,Ya]at hle
  have hfn:=nW (full:=xs.flatten) (z:=0) (i:=(xs.take i).flatten.length) (a8)
  refine wk_ (qn_ (ws_ (wb_ (ws_ (wr_ (e_ ixa (k:=e_ lel (k:=e_ asn (k:=on_ (qn_ (wr_ (e_ mv (k:=e_ mv (k:=?_))))))))))))))
  refine e_ mv (k:=?_)
  refine e_ (ef rfl (aI) (xs.take i).flatten.length xs.flatten.length ⟨_,_,rfl,rfl⟩ (by rw[hfn]) (a8) (a8)) (k:=?_)
  refine go ?_
  refine s_ (AY (a:=(xs.take i).flatten.length) (b:=xs.flatten.length) rfl rfl (aI) (a8) (a8) x.length (a8)) (k:=?_)
  rintro _ _ ⟨rfl,rfl⟩
  rw[hcp]
  refine e_ iad (k:=e_ asn (k:=on_ (bn_ (qn_ (wr_ (?_))))))
  rw[show(((xs.take i).flatten.length:Nat):Int)+((x.length:Nat):Int)=(((xs.take (i+1)).flatten.length:Nat):Int)from by rw[hfl,Ya];omega]
  refine go ?_
  refine ln_ (i+1) (k:=?_)
  try dsimp only
  omega
 obtain rfl:i=l.length:=a8
 rw[show xs.take l.length=xs from by rw[hlx,List.take_length],nX]
 refine gk (k:=rt_ Tryz.results74 (k:=?_))
 exact⟨_,hsb,s22,rfl,rfl⟩
theorem JQ {G:cM}{H:cG}{s:SV}{l:List (Nat×SV)}{ps:List Po} [hg:Glb G H] [hs:Sl H s ePo l] (hp:lI H l ps) (hok:jI 0 ps) (hsm:fx ps) (ht:dx ps≤1000000000):SC G Tryz.prog 178 [s.val] H (fun v H'=> ∃s':SV,v= .tuple #[s'.val, .nilIface]∧H'=Row s' eB (j7 ps)::H):=by
 have hpl:=hp.1
 have hT:∀i,dx (ps.take i)≤dx ps:=fun i=> by
  conv=> rhs;rw[←List.take_append_drop i ps,j3]
  omega
 have hpn:=hsm.1
 refine sWk Tryz.func178 Tryz.ntmps178 ?_
 refine go ?_
 refine gk (k:=dn (Nat) (fun y=> y≤l.length) (fun y=> [(4, .int .i64 (((e8 0 (ps.take y):Nat):Int) - 1)),(5, .int .i64 ((dx (ps.take y):Nat):Int)),(18, .int .i64 ((y:Nat):Int))]) [(0,_),(16,_),(17,_)] (fun y=> []) _ (fun y=> l.length - y) (0) (h0:=?_) (k:=?_))
 ·try dsimp only
  exact Yl _
 rintro i hi
 try dsimp only[Yd,Ye]at*
 refine gk (k:=wi_ (k:=fun h1=>?_) (m:=fun h1=>?_))
 ·obtain⟨sp,pos,hli,hpi,hsl⟩:=hp.get (i:=i) (a8)
  generalize (ps.getD i (0, [])).1=d at hli hpi
  obtain⟨hge,hne,hokp⟩:=j4 hok hpi
  have hsmi:=hsm.2 _ (Yj hpi)
  simp only at hge hsmi hne hokp
  have hposl:=dX pos
  have htk:=oe hpi
  have hTi:=hT (i+1)
  simp only at htk
  refine gk (k:=alc (k:=fun b7=>?_))
  refine go ?_
  refine d2_ rfl (H8 hsmi.1 hge hne hokp hsmi.2.1) (k:=e_ asn (k:=on_ (qn_ (ws_ (wr_ (e_ mv (k:=?_)))))))
  refine e_ (cN rfl) (k:=?_)
  refine on_ (qn_ (dw (k:=wk_ (qn_ (ws_ (wr_ (e_ fla (k:=e_ ldv (k:=e_ asn (k:=on_ (qn_ (wr_ (e_ mv (k:=?_))))))))))))))
  refine e_ fla (k:=e_ ldv (k:=e_ lnn (k:=e_ iad (k:=e_ asn (k:=on_ (bn_ (qn_ (wr_ (?_)))))))))
  have hlast:e8 0 (ps.take (i+1))=d+1:=mZ hpi
  rw[show((d:Nat):Int)=((e8 0 (ps.take (i+1)):Nat):Int) - 1 from by rw[hlast];omega,show((dx (ps.take i):Nat):Int)+(((dg pos).length:Nat):Int)=((dx (ps.take (i+1)):Nat):Int)from a8]
  refine go ?_
  refine ln_ (i+1) (k:=?_)
  try dsimp only
  omega
 obtain rfl:i=l.length:=a8
 rw[show ps.take l.length=ps from bT]
 refine go ?_
 refine c0_ rfl (fC) (k:=?_)
 rintro _ _ ⟨bh,rfl,rfl⟩
 refine c0_ rfl (fC) (k:=?_)
 rintro _ _ ⟨bb,rfl,rfl⟩
 refine e_ asn (k:=e_ asn (k:=on_ (qn_ (ws_ (wr_ (e_ mv (k:=e_ mv (k:=e_ lnn (k:=?_)))))))))
 refine e_ ((ae)) (k:=?_)
 refine d2_ rfl (eC l.length (a8) (aj)) (k:=on_ (qn_ (ws_ (wr_ (e_ mv (k:=e_ mv (k:=?_)))))))
 refine e_ ((ae)) (k:=?_)
 refine d2_ rfl (eC _ (a8) (by have:=dM (n:=l.length) (k:=6) (a8) (a8);simp only[Ya,Yc];omega)) (k:=on_ (qn_ (ws_ (wr_ (?_)))))
 obtain⟨hd,hhd⟩:∃hd,hd= []++uv l.length++uv (dx ps):=⟨_,rfl⟩
 have hhl:hd.length≤12:=by
  have h1:=dM (n:=l.length) (k:=6) (a8) (a8)
  have h2:=dM (n:=dx ps) (k:=6) (a8) (a8)
  rw[hhd];simp only[Ya,Yc];omega
 rw[←hhd,show Wr bh hd=Wr bh (hd++(cU ps 0).2.1)from by simp[cU],show Wr bb []=Wr bb (cU ps 0).2.2 from rfl]
 have hST:=jU hsm
 have hbk:16*et ps≤ps.length+15:=bG
 refine gk (k:=dn (Nat) (fun y=> y≤et ps) (fun y=> [(11, .int .i64 ((((cU ps y).1:Nat):Int) - 1)),(12, .int .i64 ((16*y:Nat):Int))]) [(0,_),(9,_),(10,_)] (fun y=> [Wr bh (hd++(cU ps y).2.1),Wr bb (cU ps y).2.2]) _ (fun y=> et ps - y) (0) (h0:=?_) (k:=?_))
 ·try dsimp only
  exact Yl _
 rintro k hk
 try dsimp only[Yd,Ye]at*
 refine gk (k:=wi_ (k:=fun h2=>?_) (m:=fun h2=>?_))
 ·have hlt:16*k<ps.length:=by omega
  have hkb:k<et ps:=bG
  obtain⟨hS1,hS2,hS3⟩:=hST k
  have htk:=hT (16*k)
  have hlk:(ps.take (16*k)).length≤ps.length:=ax
  have hblen:=kc ps k
  have hbs:=l6 hsm k
  have hbT:dx (dN ps k)≤dx ps:=by
   have:=hT (16*(k+1))
   rw[←k9,j3]at this;omega
  have hbl:=o4 (nb:=(cU ps k).1) hbs
  have hcut:=hp.cut (16*k) (16*k+16)
  rw[show(ps.take (16*k+16)).drop (16*k)=dN ps k from rfl]at hcut
  have hcl:=hcut.1
  obtain⟨q,hq⟩:∃q,(dN ps k).getLast? =some q:=by
   rcases List.eq_nil_or_concat (dN ps k)with h|⟨c,q,h⟩
   ·rw[h]at hblen;simp at hblen;omega
   ·exact⟨q,by rw[h];simp⟩
  have hql:e8 (cU ps k).1 (dN ps k)=q.1+1:=by rw[e8,hq]
  have hq2:(dN ps k)[(dN ps k).length - 1]? =some q:=by rw[←List.getLast?_eq_getElem?];exact hq
  obtain⟨pl,hpl2⟩:∃p,((l.take (16*k+16)).drop (16*k))[((l.take (16*k+16)).drop (16*k)).length - 1]? =some p:=⟨_,Yi (a8)⟩
  have hpq:=(hcut.2 _ _ _ hpl2 (by rw[hcl];exact hq2)).1
  have hqs:=(hbs.2 q (List.mem_of_getLast? hq)).1
  have hqge:(cU ps k).1≤q.1:=by
   have:=(j4 (mH hok k) hq2).1
   have h0:=j4 (mH hok k) (i:=0) (Yi (a8))
   exact wG (mH hok k) q (List.mem_of_getLast? hq)
  refine wk_ (qn_ (ws_ (wb_ (ws_ (wr_ (e_ mv (k:=e_ mv (k:=e_ mv (k:=e_ iad (k:=e_ mv (k:=e_ lnn (k:=?_))))))))))))
  refine e_ (uD rfl rfl) (k:=?_)
  refine iP H rfl (16*k) (min (16*k+16) l.length) ⟨_,_,rfl,(aG)⟩ ⟨_,_,rfl,(aG)⟩ (a8) (aE) rfl (fun sb ib=>?_)
  rw[tr]at ib
  refine go ?_
  refine c2_ rfl (GZ hcut.tail.tail (mH hok k) hbs (a8) (a8)) (k:=?_)
  rintro _ _ ⟨s63,rfl,rfl⟩
  refine e_ asn (k:=on_ (qn_ (ws_ (wr_ (e_ mv (k:=e_ mv (k:=e_ lnn (k:=e_ isb (k:=e_ (ixa (i:=((l.take (16*k+16)).drop (16*k)).length - 1)) (k:=e_ fle (k:=e_ lfl (k:=e_ asn (k:=on_ (?_))))))))))))))
  refine qn_ (ws_ (wr_ (e_ mv (k:=e_ mv (k:=e_ mv (k:=e_ isb (k:=?_)))))))
  refine e_ (evq isb (congrArg (Value.int .i64) (show _=((e8 (cU ps k).1 (dN ps k) - 1 - (cU ps k).1:Nat):Int)from a8))) (k:=?_)
  refine e_ ((ae)) (k:=?_)
  refine d2_ rfl (eC _ (a8) (ah)) (k:=?_)
  have hu1:=dM (n:=e8 (cU ps k).1 (dN ps k) - 1 - (cU ps k).1) (k:=6) (a8) (a8)
  refine on_ (qn_ (ws_ (wr_ (e_ mv (k:=e_ mv (k:=e_ lnn (k:=?_)))))))
  refine e_ ((ae)) (k:=?_)
  refine d2_ rfl (eC _ (a8) (ah)) (k:=go ?_)
  refine d2_ rfl (zn (a8) (a8)) (k:=on_ (qn_ (wr_ (e_ mv (k:=e_ asn (k:=on_ (bn_ (qn_ (wr_ (?_))))))))))
  rw[show hd++(cU ps k).2.1++uv (e8 (cU ps k).1 (dN ps k) - 1 - (cU ps k).1)++uv (o5 (cU ps k).1 (dN ps k)).length=hd++(cU ps (k+1)).2.1 from by simp[cU],show(cU ps k).2.2++o5 (cU ps k).1 (dN ps k)=(cU ps (k+1)).2.2 from rfl]
  rw[show((pl.1:Nat):Int)=(((cU ps (k+1)).1:Nat):Int) - 1 from by rw[show(cU ps (k+1)).1=e8 (cU ps k).1 (dN ps k)from rfl];omega,show((16*k:Nat):Int)+16=((16*(k+1):Nat):Int)from a8]
  refine go ?_
  refine ln_ (k+1) (k:=?_)
  try dsimp only
  omega
 obtain rfl:k=et ps:=by unfold et at*;omega
 obtain⟨hS1,hS2,hS3⟩:=hST (et ps)
 rw[pF]at hS2
 refine go ?_
 refine c1_ rfl (iB (ah)) (k:=?_)
 rintro _ _ ⟨s88,rfl,rfl⟩
 refine go ?_
 refine c1_ rfl (iB (a8)) (k:=?_)
 rintro _ _ ⟨s90,rfl,rfl⟩
 refine s_ (mi eSV rfl rfl rfl) (k:=?_)
 rintro _ _ ⟨s91,rfl,rfl⟩
 refine c1_ rfl (IU (xs:= [hd++(cU ps (et ps)).2.1,(cU ps (et ps)).2.2]) Gp (aj) (au)) (k:=?_)
 rintro _ _ ⟨s92,rfl,rfl⟩
 rw[show [hd++(cU ps (et ps)).2.1,(cU ps (et ps)).2.2].flatten=j7 ps from by rw[hhd,hpl];simp[j7]]
 refine gk (k:=rt_ Tryz.results178 (k:=?_))
 exact⟨_,hsb,s92,rfl,rfl⟩
end Go.Sx
