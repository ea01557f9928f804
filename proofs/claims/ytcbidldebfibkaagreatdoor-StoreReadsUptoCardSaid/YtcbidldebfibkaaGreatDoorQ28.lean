import Derived.Test.YtcbidldebfibkaaGreatDoorQ27
set_option linter.unusedVariables false
set_option linter.unusedSimpArgs false
set_option linter.unusedSectionVars false
set_option linter.unnecessarySimpa false
set_option maxHeartbeats 0
namespace Go.Sx
open Go Go.Proofs
set_option maxRecDepth 100000
theorem MJ {G:cM}{H R:cG}{b:Nat}{xs:List Nat} [hr:Rem H Wr b xs R]:SC G Tryz.prog 179 [.pointer (some ⟨b,0,none⟩)] H (fun v H'=> v= .int .i64 ((xs.length:Nat):Int)∧H'=Wr b xs::R):=by
 refine tD hr fun s=> ?_
 refine sWk Tryz.func179 Tryz.ntmps179 ?_
 refine go ?_
 refine gk (k:=rt_ Tryz.results179 (k:=?_))
 exact⟨_,hsb,rfl,rfl⟩
theorem Jy {G:cM}{H R:cG}{b:Nat}{xs:List Nat} [hr:Rem H Wr b xs R]:SC G Tryz.prog 155 [.pointer (some ⟨b,0,none⟩)] H (fun v H'=> v= .tuple #[]∧H'=Wr b []::R):=by
 refine tD hr fun s=> ?_
 refine sWk Tryz.func155 Tryz.ntmps155 ?_
 refine gk (k:=rt_ Tryz.results155 (k:=?_))
 exact⟨_,hsb,rfl,rfl⟩
theorem xA {fs:List FV}{v:Val}(hf:fs.length≤1000000) (hv:v.2.size≤3000000):(fu fs v).length≤v.2.size+20:=by
 have h1:(ga fs (cF v.1)).getD 0≤fs.length:=by
  cases h:ga fs (cF v.1)with
  |none=> simp
  |some i=> obtain⟨p,hp,_⟩:=mE h;have:=(Yk.1 hp).1;simp;omega
 have h2:=dM (n:=(ga fs (cF v.1)).getD 0) (k:=6) (a8) (a8)
 have h3:=dM (n:=v.2.size) (k:=6) (a8) (a8)
 simp only[fu,Ya,cJ];omega
theorem kO {fs:List FV}(hf:fs.length≤1000000):∀{vs:List Val},(∀v∈vs,v.2.size≤3000000)→(vs.flatMap (fu fs)).length≤vsz vs
 | [],_=> aj
 |v::vs,h=> by
  have h1:=xA hf (h v (aj))
  have h2:=kO hf (fun u hu=> h u (Xa _ hu))
  simp only[List.flatMap_cons,Ya,vsz,List.map_cons,List.sum_cons]at h2⊢
  omega
theorem jl {fs:List FV}(hf:fs.length≤1000000):∀{ds:List Doc},(∀d∈ds,d.2.length≤100000000∧∀v∈d.2,v.2.size≤3000000)→(fw fs ds).length≤10*ds.length+dsz ds
 | [],_=> by simp[fw]
 |d::ds,h=> by
  have h1:=kO hf (h d (aj)).2
  have h2:=jl hf (fun u hu=> h u (Xa _ hu))
  have h3:=dM (n:=d.2.length) (k:=6) (by have:=(h d (aj)).1;omega) (a8)
  simp only[fw,sO,List.flatMap_cons,Ya,dsz,List.map_cons,List.sum_cons,Yb]at h2⊢
  omega
theorem GU {G:cM}{H:cG}{g:Nat}{fv dv:SV}{v3 v4:Value}{fs:List FV}{l:List (Int×SV)}{ds:List Doc} [hg:dh H g [fv.val,dv.val,v3,v4]] [hf:Sl H fv eF fs] [hd:Sl H dv eD l] (hdi:fL H l ds) (hfl:fs.length≤1000000) (hn:ds.length≤100000) (hq:∀d∈ds,d.2.length≤100000000∧∀v∈d.2,v.2.size≤3000000) (hz:dsz ds≤30000000) (hfd:∀d∈ds,∀v∈d.2,∃k,ga fs (cF v.1)=some k):
 SC G Tryz.prog 157 [.pointer (some ⟨g,0,none⟩)] H (fun v H'=> ∃s:SV,v=s.val∧H'=Row s eB (fw fs ds)::H):=by
 have hll:=hdi.1
 refine sWk Tryz.func157 Tryz.ntmps157 ?_
 refine go ?_
 refine c0_ rfl (fC) (k:=?_)
 rintro _ _ ⟨bw,rfl,rfl⟩
 refine e_ asn (k:=on_ (qn_ (ws_ (ws_ (wr_ (?_))))))
 rw[show Wr bw []=Wr bw (fw fs (ds.take 0))from rfl]
 refine gk (k:=dn (Nat) (fun y=> y≤l.length) (fun y=> [(16, .int .i64 ((y:Nat):Int))]) [(0,_),(3,_),(14,_),(15,_)] (fun y=> [Wr bw (fw fs (ds.take y))]) _ (fun y=> l.length - y) (0) (h0:=?_) (k:=?_))
 ·try dsimp only
  exact Yl _
 rintro i hi
 try dsimp only[Yd,Ye]at*
 refine gk (k:=wi_ (k:=fun h1=>?_) (m:=fun h1=>?_))
 ·obtain⟨d,s,vs,hli,hdj,hsl⟩:=hdi.get (i:=i) (a8)
  have hmem:=Yj hdj
  obtain⟨hq1,hq2⟩:=hq _ hmem
  have hvz:=ni hmem
  have hsl1:=jl (fs:=fs) (ds:=ds.take i) hfl (fun d hd=> hq d (Yq hd))
  have hdz:=wZ ds i
  rw[Yg]at hsl1
  simp only at hq1 hq2 hvz
  obtain⟨pre,hpre⟩:∃pre,pre=fw fs (ds.take i):=⟨_,rfl⟩
  rw[←hpre]at hsl1⊢
  have hstp:fw fs (ds.take (i+1))=pre++uv vs.length++vs.flatMap (fu fs):=by rw[cP hdj,hpre];simp[fw,sO]
  have hu:=dM (n:=vs.length) (k:=6) (a8) (a8)
  refine gk (k:=alc (k:=fun b5=>?_))
  refine sto (k:=on_ (qn_ (ws_ (wr_ (e_ mv (k:=e_ fla (k:=e_ ldv (k:=e_ lnn (k:=?_)))))))))
  refine e_ ((ae)) (k:=?_)
  refine d2_ rfl (eC _ (a8) (a8)) (k:=on_ (qn_ (ws_ (wr_ (?_)))))
  rw[show Wr bw (pre++uv vs.length)=Wr bw (pre++uv vs.length++(vs.take 0).flatMap (fu fs))from aj]
  refine gk (k:=dn (Nat) (fun y=> y≤vs.length) (fun y=> [(29, .int .i64 ((y:Nat):Int))]) [(0,_),(3,_),(14,_),(15,_),(16,_),(27,_),(28,_)] (fun y=> [Wr bw (pre++uv vs.length++(vs.take y).flatMap (fu fs))]) _ (fun y=> vs.length - y) (0) (h0:=?_) (k:=?_))
  ·try dsimp only
   exact Yl _
  rintro j hj
  try dsimp only[Yd,Ye]at*
  refine gk (k:=wi_ (k:=fun h2=>?_) (m:=fun h2=>?_))
  ·obtain⟨v,hv⟩:∃v,vs[j]? =some v:=⟨_,Yi (a8)⟩
   have hvs:=hq2 v (Yj hv)
   have hvl:=kO (fs:=fs) (vs:=vs.take j) hfl (fun u hu=> hq2 u (Yq hu))
   have hvz2:=qU vs j
   obtain⟨p2,hp2⟩:∃p2,p2=pre++uv vs.length++(vs.take j).flatMap (fu fs):=⟨_,rfl⟩
   have hp2l:p2.length≤100000000:=cb
   have hst2:pre++uv vs.length++(vs.take (j+1)).flatMap (fu fs)=p2++fu fs v:=by rw[hp2,cP hv];simp
   rw[←hp2]
   refine gk (k:=alc (k:=fun b7=>?_))
   refine go ?_
   refine di cL (fun i=> [6].contains i) (fun k H=> (k=2→dh H g [fv.val,dv.val,v3,v4])∧(k=3→dh H g [fv.val,dv.val,v3,v4])∧(k=5→dh H b7 [.string v.1, .string v.2])) (af_ 0 (q:=cE fun H hH=>mv) (k:=af_ 1 (q:=cE fun H hH=>nck) (k:=?_)))
   refine cH 2 rfl rfl (aa) rfl (cE fun H hH=>bm) (?_)
   refine cH 3 rfl rfl (aa) rfl (cE fun H hH=>by have hN:=hH.2.1 rfl;exact lds) (?_)
   refine af_ 4 (q:=cE fun H hH=>fla) (k:=?_)
   refine cH 5 rfl rfl (aa) rfl (cE fun H hH=>c9) (?_)
   refine cQ 6 rfl (aa) rfl (fun k hk=> ⟨fun hi=> ab,fun hi=> ab,fun hi=> ab⟩) (dm (vs:= [_,_]) rfl (LJ (a8))) ?_
   rintro _ _ ⟨k,b,rfl,hkb,rfl⟩
   refine af_ 7 (q:=cE fun H hH=>mv) (k:=af_ 8 (q:=cE fun H hH=>exr) (k:=af_ 9 (q:=cE fun H hH=>exr) (k:=af_ 10 (q:=cE fun H hH=>asn) (k:=af_ 11 (q:=cE fun H hH=>asn) (k:=db (aa) (fun k hk=> ⟨fun hi=> ab,fun hi=> absurd hk (ad),fun hi=> absurd hk (ad)⟩) (qn_ (ws_ (wr_ (?_)))))))))
   obtain⟨k0,hk0⟩:=hfd _ hmem v (Yj hv)
   obtain rfl:k0=k:=by
    rcases hkb with⟨_,h9⟩|⟨_,h9⟩
    ·rw[hk0]at h9;exact Option.some.inj h9
    ·rw[hk0]at h9;cases h9
   obtain⟨pf,hpf,_⟩:=mE hk0
   have hkl:=(Yk.1 hpf).1
   have hu2:=dM (n:=k0) (k:=6) (a8) (a8)
   refine e_ mv (k:=e_ mv (k:=?_))
   refine e_ ((ae)) (k:=?_)
   refine d2_ rfl (eC _ (a8) (a8)) (k:=go ?_)
   refine d2_ rfl (Dh _ (ah) (a8)) (k:=?_)
   rw[show p2++uv k0++(uv v.2.size++cF v.2)=pre++uv vs.length++(vs.take (j+1)).flatMap (fu fs)from by rw[hst2,fu,hk0];simp]
   refine go ?_
   refine ln_ (j+1) (k:=?_)
   try dsimp only
   omega
  obtain rfl:j=vs.length:=a8
  rw[List.take_length,←hstp]
  refine go ?_
  refine ln_ (i+1) (k:=?_)
  try dsimp only
  omega
 obtain rfl:i=l.length:=a8
 rw[show ds.take l.length=ds from by rw[hll,List.take_length]]
 have hsl1:=jl (fs:=fs) (ds:=ds) hfl hq
 refine go ?_
 refine c1_ rfl (iB (a8)) (k:=?_)
 rintro _ _ ⟨s54,rfl,rfl⟩
 refine gk (k:=rt_ Tryz.results157 (k:=?_))
 exact⟨_,hsb,s54,rfl,rfl⟩
theorem my {α:Type} [DecidableEq α]:∀{l m:List α},l.Nodup→(∀x∈l,x∈m)→l.length≤m.length
 | [],_,_,_=> Yl _
 |a::l,m,hn,h=> by
  obtain⟨h1,h2⟩:=List.nodup_cons.1 hn
  have h3:=my (m:=m.erase a) h2 fun x hx=> (List.mem_erase_of_ne (fun e=> h1 (by rw[←e];exact hx))).2 (h x (Xa _ hx))
  have h4:=h a (aj)
  rw[List.length_erase_of_mem h4]at h3
  have:=List.length_pos_of_mem h4
  simp only[Yb];omega
theorem ot (rs:List kJ) (i:Nat):(ez (rs.take i)).length≤(ez rs).length:=by
 conv=> rhs;rw[←List.take_append_drop i rs,ez,List.flatMap_append,Ya]
 exact Nat.le_add_right _ _
structure ny (fs:List FV) (ds:List Doc):Prop where
 chk:e7 fs=true
 few:ds.length≤4096
 pos:iW (ds.map (·.1))=false
 up:rise (ds.map (·.1))=true
 ids:∀d∈ds,d.1<1099511627776
 vals:∀d∈ds,iE fs d.2=0
 size:dsz ds≤30000000
 toks:(gA fs ds).length≤2000000
theorem vK {fs:List FV}:∀{vs:List Val},jX fs vs=0→∀v∈vs,sk fs v=0
 | [],_,v,hv=> by simp at hv
 |u::vs,h,v,hv=> by
  rw[jX]at h
  split at h
  ·rename_i h0
   rcases List.mem_cons.1 hv with rfl|hv
   ·exact h0
   ·exact vK h v hv
  ·rename_i h0;exact absurd h h0
theorem yw {fs:List FV}{vs:List Val}(h:iE fs vs=0):vs.length≤64∧∀v∈vs,v.2.size≤4096∧∃k,ga fs (cF v.1)=some k:=by
 rw[iE]at h
 split at h
 ·cases h
 ·split at h
  ·cases h
  ·refine⟨a8,fun v hv=> ?_⟩
   have h1:=vK h v hv
   rw[sk]at h1
   split at h1
   ·cases h1
   ·rename_i k hk
    split at h1
    ·cases h1
    ·exact⟨a8,k,hk⟩
theorem ny.flen {fs:List FV}{ds:List Doc}(h:ny fs ds):fs.length≤16:=(eG h.chk).1.2
theorem ny.q {fs:List FV}{ds:List Doc}(h:ny fs ds):∀d∈ds,d.2.length≤100000000∧∀v∈d.2,v.2.size≤3000000:=fun d hd=> by
 obtain⟨h1,h2⟩:=yw (h.vals d hd)
 exact⟨a8,fun v hv=> by have:=(h2 v hv).1;omega⟩
theorem ny.fd {fs:List FV}{ds:List Doc}(h:ny fs ds):∀d∈ds,∀v∈d.2,∃k,ga fs (cF v.1)=some k:=fun d hd v hv=> ((yw (h.vals d hd)).2 v hv).2
theorem Dc (w:List Nat):∀(i:Nat) (a:Option Nat) (out:List Tok),eL w i=(a,out)→∀(j:Nat) (t:Tok),out[j]? =some t→t.pos=j
 | 0,a,out,h,j,t,ht=> by cases h;simp at ht
 |i+1,a,out,h,j,t,ht=> by
  obtain⟨a0,out0,h0⟩:∃a0 out0,eL w i=(a0,out0):=⟨_,_,rfl⟩
  have ih:=Dc w i a0 out0 h0
  cases hin:inW w i with
  |true=>
   cases a0 with
   |none=> rw[kW h0 hin]at h;cases h;exact ih j t ht
   |some b=> rw[qS h0 hin]at h;cases h;exact ih j t ht
  |false=>
   cases a0 with
   |none=> rw[oa h0 hin]at h;cases h;exact ih j t ht
   |some b=>
    rw[oc h0 hin]at h;cases h
    by_cases hj:j<out0.length
    ·rw[Yv hj]at ht;exact ih j t ht
    ·rw[Yu (a8)]at ht
     have hz:j - out0.length=0:=by
            have:=(Yk.1 ht).1
            simp at this;omega
     rw[hz]at ht;simp at ht;subst ht;show out0.length=j;omega
theorem qT (w:List Nat) {j:Nat}{t:Tok}(h:(fe w)[j]? =some t):t.pos=j:=Dc w _ _ _ rfl j t h
def lY (l:List Tok):Prop:=l.Pairwise fun a b=> a.pos<b.pos
theorem zj (w:List Nat):lY (fe w):=by
 rw[lY,List.pairwise_iff_getElem]
 intro i j hi hj hij
 have h1:=qT w (Yi hi)
 have h2:=qT w (Yi hj)
 omega
theorem uh {p:FV}{t u:Tok}(h:kz p t=some u):u.pos=t.pos:=by
 rw[kz]at h
 split at h
 ·split at h
  ·obtain rfl:=Option.some.inj h;rfl
  ·cases h
 ·cases h
theorem BS (p:FV) (w:List Nat):lY (dY p w)∧∀t∈dY p w,t.pos<fR p w+1:=by
 rw[dY,fR]
 split
 ·rename_i hk
  constructor
  ·rw[lY,List.pairwise_filterMap]
   refine(zj w).imp fun{a b} h u hu v hv=> ?_
   rw[uh hu,uh hv];exact h
  ·intro t ht
   obtain⟨t0,h0,hk⟩:=List.mem_filterMap.1 ht
   obtain⟨j,hj⟩:=List.getElem?_of_mem h0
   have:=(Yk.1 hj).1
   rw[uh hk,qT w hj];omega
 ·split
  ·split
   ·exact⟨by simp[lY],fun t ht=> by simp at ht;subst ht;simp⟩
   ·exact⟨by simp[lY],fun t ht=> by simp at ht⟩
  ·split
   ·split
    ·exact⟨by simp[lY],fun t ht=> by simp at ht;subst ht;simp⟩
    ·exact⟨by simp[lY],fun t ht=> by simp at ht⟩
   ·exact⟨by simp[lY],fun t ht=> by simp at ht⟩
theorem yz (p:FV) (vs:List Val):∀(i b:Nat) (out:List Tok),fm p vs i=(b,out)→lY out∧∀t∈out,t.pos<b
 | 0,b,out,h=> by cases h;exact⟨by simp[lY],aj⟩
 |i+1,b,out,h=> by
  obtain⟨b0,out0,h0⟩:∃b0 out0,fm p vs i=(b0,out0):=⟨_,_,rfl⟩
  obtain⟨i1,i2⟩:=yz p vs i b0 out0 h0
  rw[fm,h0]at h
  split at h
  ·cases h;exact⟨i1,i2⟩
  ·rename_i v hv
   split at h
   ·cases h
    obtain⟨t1,t2⟩:=BS p (cF v.2)
    constructor
    ·rw[lY,List.pairwise_append]
     refine⟨i1,List.pairwise_map.2 (t1.imp fun{a c} hac=> ?_),fun a ha c hc=> ?_⟩
     ·show a.pos+b0<c.pos+b0;omega
     ·obtain⟨c0,hc0,rfl⟩:=List.mem_map.1 hc
      have:=i2 a ha
      show a.pos<c0.pos+b0;omega
    ·intro t ht
     rcases List.mem_append.1 ht with ht|ht
     ·have:=i2 t ht;show t.pos<b0+_;omega
     ·obtain⟨t0,ht0,rfl⟩:=List.mem_map.1 ht
      have:=t2 t0 ht0
      show t0.pos+b0<b0+(fR p (cF v.2)+16);omega
   ·cases h;exact⟨i1,i2⟩
theorem uA (fs:List FV) (k:Nat) (vs:List Val):lY (dF fs k vs)∧∀t∈dF fs k vs,t.pos<vsz vs:=by
 unfold dF
 split
 ·rename_i p hp
  obtain⟨h1,h2⟩:=yz p vs vs.length _ _ rfl
  have h3:=(wP p vs vs.length _ _ rfl).1
  rw[List.take_length]at h3
  exact⟨h1,fun t ht=> Nat.lt_of_lt_of_le (h2 t ht) h3⟩
 ·exact⟨by simp[lY],aj⟩
theorem Bi (a b:List Tri) (k:List Nat):ofK (a++b) k=ofK a k++ofK b k:=by simp[ofK]
theorem oG {fs:List FV}{f:Nat}:∀{l:List Doc}{k:Nat}{t:Tri},t∈fN fs f k l→∃j d u,l[j]? =some d∧u∈dF fs f d.2∧t=(cF (sE f (dO u.text)),k+j,u.pos)
 | [],k,t,h=> by simp[fN]at h
 |d::l,k,t,h=> by
  rcases List.mem_append.1 h with h|h
  ·obtain⟨u,hu,rfl⟩:=List.mem_map.1 h
   exact⟨0,d,u,rfl,hu,rfl⟩
  ·obtain⟨j,d',u,h1,h2,h3⟩:=oG h
   exact⟨j+1,d',u,h1,h2,by rw[h3,Nat.add_assoc,Nat.add_comm 1 j]⟩
theorem uH (fs:List FV) (f:Nat):∀(l:List Doc) (k:Nat),(fN fs f k l).Pairwise fun a b=> ltP a.2 b.2
 | [],_=> by simp[fN]
 |d::l,k=> by
  rw[fN,List.pairwise_append]
  refine⟨List.pairwise_map.2 ((uA fs f d.2).1.imp fun{a b} h=> .inr ⟨rfl,h⟩),uH fs f l (k+1),fun a ha b hb=> ?_⟩
  obtain⟨u,hu,rfl⟩:=List.mem_map.1 ha
  obtain⟨j,d',u',h1,h2,rfl⟩:=oG hb
  exact .inl (by show k<k+1+j;omega)
theorem tT {fs:List FV}{ds:List Doc}{n:Nat}{t:Tri}(h:t∈lk fs ds n):∃f j d u,f<n∧ds[j]? =some d∧u∈dF fs f d.2∧t=(cF (sE f (dO u.text)),j,u.pos):=by
 obtain⟨f,hf,h⟩:=List.mem_flatMap.1 h
 obtain⟨j,d,u,h1,h2,h3⟩:=oG h
 exact⟨f,j,d,u,List.mem_range.1 hf,h1,h2,by rw[h3,Nat.zero_add]⟩
theorem Bd (fs:List FV) (ds:List Doc) (k:List Nat):∀n,n≤256→(ofK (lk fs ds n) k).Pairwise ltP
 | 0,_=> by simp[lk,ofK]
 |n+1,h=> by
  rw[oq,Bi,List.pairwise_append]
  refine⟨Bd fs ds k n (a8),?_,fun a ha b hb=> ?_⟩
  ·exact List.pairwise_map.2 ((uH fs n ds 0).filter _)
  ·exfalso
   obtain⟨f,j,d,u,h1,h2,h3,h4⟩:=tT (sT ha)
   obtain⟨j',d',u',h5,h6,h7⟩:=oG (sT hb)
   have e1:cF (sE f (dO u.text))=cF (sE n (dO u'.text)):=((congrArg (fun z:Tri=> z.1) h4).symm).trans (congrArg (fun z:Tri=> z.1) h7)
   simp only[l5]at e1
   have:=(List.cons.inj e1).1
   omega
theorem ny.goodT {fs:List FV}{ds:List Doc}(h:ny fs ds):uQ (gA fs ds):=by
 have hf:=h.flen
 refine⟨fun k=> Bd fs ds k fs.length (a8),by have:=h.toks;omega,fun t ht=> ?_⟩
 obtain⟨f,j,d,u,h1,h2,h3,rfl⟩:=tT ht
 have hs:=sm h3
 have hp:=(uA fs f d.2).2 u h3
 have hv:=ni (Yj h2)
 have hj:=(Yk.1 h2).1
 have hz:=h.size
 have hfew:=h.few
 have hl:(cF (sE f (dO u.text))).length=1+u.text.length:=by rw[l5,Yb,cJ,fg];omega
 refine⟨aP,aP,fun x hx=> ko _ x hx,aP,aP⟩
theorem AV:∀(ts:List Tri) (ks:List (List Nat)),ks.Nodup→(ks.map fun k=> (ofK ts k).length).sum≤ts.length
 | [],ks,_=> by
  have:∀ks:List (List Nat),(ks.map fun k=> (ofK [] k).length).sum=0:=by
   intro ks;induction ks with
   |nil=> rfl
   |cons k ks ih=>
      rw[List.map_cons,List.sum_cons,ih];all_goals rfl
  rw[this];exact Yl _
 |t::ts,ks,hn=> by
  have h1:=AV ts ks hn
  have h2:∀ks:List (List Nat),ks.Nodup→(ks.map fun k=> (ofK (t::ts) k).length).sum≤(ks.map fun k=> (ofK ts k).length).sum+(if t.1∈ks then 1 else 0):=by
   intro ks
   induction ks with
   |nil=> intro _;simp
   |cons k ks ih=>
    intro hn
    obtain⟨h3,h4⟩:=List.nodup_cons.1 hn
    have h5:=ih h4
    simp only[List.map_cons,List.sum_cons,List.mem_cons]
    by_cases he:t.1=k
    ·have h6:(ofK (t::ts) k).length=(ofK ts k).length+1:=by simp[ofK,he]
     rw[if_neg (by rw[he];exact h3)]at h5
     rw[h6,if_pos (.inl he)];omega
    ·have h6:(ofK (t::ts) k).length=(ofK ts k).length:=by simp[ofK,he]
     rw[h6]
     by_cases hm:t.1∈ks
     ·rw[if_pos hm]at h5;rw[if_pos (.inr hm)];omega
     ·rw[if_neg hm]at h5;rw[if_neg (by rintro(h|h);exact he h;exact hm h)];omega
  have h3:=h2 ks hn
  simp only[Yb]
  split at h3 <;> omega
theorem tG {ks:List (List Nat)}(h:o7 ks):ks.Nodup:=List.Pairwise.imp (R:=fun a b=> a<b) (S:=fun a b=> a≠b) (fun{a b} hab e=> mW a (by rw[←e]at hab;exact hab)) h
theorem I3 {ts:List Tri}{k:List Nat}(h:k∈ts.map (·.1)):1≤(ofK ts k).length:=by
 obtain⟨t,ht,rfl⟩:=List.mem_map.1 h
 have:t.2∈ofK ts t.1:=List.mem_map.2 ⟨t,List.mem_filter.2 ⟨ht,Ys rfl⟩,rfl⟩
 exact List.length_pos_of_mem this
theorem BB {ts:List Tri}(h:uQ ts) {k:List Nat}(hk:k∈ts.map (·.1)):(j7 (jf (ofK ts k))).length≤86*(ofK ts k).length:=by
 obtain⟨h1,h2,h3⟩:=qj h (k:=k)
 obtain⟨h4,h5⟩:=ox (ofK ts k)
 have h6:=h.few
 have h7:=CT h2 (a8)
 have h8:=I3 hk
 omega
theorem vu {ts:List Tri}(h:uQ ts):(ez (dy ts)).length≤86*ts.length:=by
 have key:∀ks:List (List Nat),(∀k∈ks,k∈ts.map (·.1))→(ez (ks.map fun k=> (k,jf (ofK ts k)))).length≤86*(ks.map fun k=> (ofK ts k).length).sum:=by
  intro ks
  induction ks with
  |nil=> intro _;simp[ez]
  |cons k ks ih=>
   intro hk
   have h1:=ih fun x hx=> hk x (Xa _ hx)
   have h2:=BB h (hk k (aj))
   simp only[ez,List.map_cons,List.flatMap_cons,Ya,List.sum_cons]at h1⊢
   omega
 have h1:=key (mm (ts.map (·.1))) fun k hk=> (jO _ _).1 hk
 have h2:=AV ts _ (tG (jd (ts.map (·.1))))
 rw[dy]
 omega
theorem tE (ts:List Tri):(dy ts).length≤ts.length:=by
 have h:=my (l:=mm (ts.map (·.1))) (m:=ts.map (·.1)) (tG (jd _)) fun x hx=> (jO _ _).1 hx
 rw[dy,Yh]
 simpa using h
theorem nO {ts:List Tri}{i:Nat}{p:kJ}(h:(dy ts)[i]? =some p):p.1∈ts.map (·.1)∧p.2=jf (ofK ts p.1)∧(mm (ts.map (·.1)))[i]? =some p.1:=by
 rw[dy,Xd]at h
 cases hk:(mm (ts.map (·.1)))[i]? with
 |none=> rw[hk]at h;cases h
 |some k=>
  rw[hk]at h
  obtain rfl:=Option.some.inj h
  exact⟨(jO _ _).1 (Yj hk),rfl,rfl⟩
theorem uG {rs:List kJ}{n i:Nat}{e:En}(h:(gT n rs)[i]? =some e):∃p,rs[i]? =some p∧e=⟨dO p.1,p.2.length,dx p.2,n+(ez (rs.take i)).length,(j7 p.2).length⟩:=by
 have hi:=(Yk.1 h).1
 rw[iR]at hi
 have h2:=oD (n:=n) (Yi hi)
 rw[h]at h2
 exact⟨_,Yi hi,Option.some.inj h2⟩
theorem rp {ts:List Tri}(h:uQ ts) {k:List Nat}(hk:k∈ts.map (·.1)):cF (dO k)=k∧1≤k.length∧k.length≤65:=by
 obtain⟨t,ht,rfl⟩:=List.mem_map.1 hk
 obtain⟨h1,h2,h3,_⟩:=h.small t ht
 exact⟨dK h3,h2,h1⟩
theorem IM {ts:List Tri}(h:uQ ts) (hf:ts.length≤2000000):uV (gT 0 (dy ts)):=by
 constructor
 ·intro e he
  obtain⟨i,hi⟩:=List.getElem?_of_mem he
  obtain⟨p,hp,rfl⟩:=uG hi
  obtain⟨h1,h2,_⟩:=nO hp
  obtain⟨_,h3,h4⟩:=rp h h1
  obtain⟨h5,h6⟩:=ox (ofK ts p.1)
  have h7:=wH ts p.1
  have h8:=BB h h1
  have h9:=vu h
  have h10:=ot (dy ts) i
  rw[←h2]at h5 h6 h8
  have hsz:=fg p.1
  refine⟨aP,aP,aP,aP,aP,aP⟩
 ·intro i a b ha hb
  obtain⟨p,hp,rfl⟩:=uG ha
  obtain⟨q,hq,rfl⟩:=uG hb
  obtain⟨h1,_,h2⟩:=nO hp
  obtain⟨h3,_,h4⟩:=nO hq
  simp only[(rp h h1).1,(rp h h3).1]
  have h5:=List.pairwise_iff_getElem.1 (jd (ts.map (·.1)))
  have h6:=h5 i (i+1) (Yk.1 h2).1 (Yk.1 h4).1 (a8)
  rw[(Yk.1 h2).2,(Yk.1 h4).2]at h6
  exact h6
theorem IN {prev:List Nat}{e:En}(h1:e.key.size≤65) (h:e.docs<1099511627776∧e.tot<1099511627776∧e.at_<1099511627776∧e.size<1099511627776):(m9 prev e).length≤101:=by
 have h0:=jP prev (cF e.key)
 have hb:=cJ e.key
 have h1:=dM (n:=dC prev (cF e.key)) (k:=6) (a8) (a8)
 have h2:=dM (n:=(cF e.key).length - dC prev (cF e.key)) (k:=6) (a8) (a8)
 have h3:=dM (n:=e.docs) (k:=6) h.1 (a8)
 have h4:=dM (n:=e.tot) (k:=6) h.2.1 (a8)
 have h5:=dM (n:=e.at_) (k:=6) h.2.2.1 (a8)
 have h6:=dM (n:=e.size) (k:=6) h.2.2.2 (a8)
 simp only[m9,Ya,Yo];omega
theorem yJ:∀{l:List En}{p:List Nat},(∀e∈l,e.key.size≤65)→j8 l→(dB p l).length≤101*l.length
 | [],_,_,_=> by simp[dB]
 |e::r,p,hk,h=> by
  have h1:=IN (prev:=p) (hk e (aj)) (h e (aj)).2
  have h2:=yJ (p:=cF e.key) (fun x hx=> hk x (Xa _ hx)) (fun x hx=> h x (Xa _ hx))
  simp only[dB,Ya,Yb];omega
theorem G5 {l:List En}(h:uV l) (hn:l.length<1099511627776):(fU l).length≤2000+110*l.length:=by
 have hs:=pz h
 have key:∀k,(dj l k).2.length≤1616*k:=by
  intro k
  induction k with
  |zero=> simp[dj]
  |succ k ih=>
   have h3:=yJ (p:= []) (l:=eJ l k) (fun e he=> (h.1 e (yZ he)).2.1) (kt hs k)
   have h4:=lG l k
   simp only[dj,Ya];omega
 have h1:=(lE hs (eg l)).1
 have h2:=key (eg l)
 have h3:=dM (n:=l.length) (k:=6) hn (a8)
 have h5:16*eg l≤l.length+15:=bH
 simp only[fU,Ya];omega
theorem qg (fs:List FV) {ds:List Doc}(h:dsz ds≤30000000) (f:Nat):∀x∈dT fs ds f,x<1099511627776:=by
 intro x hx
 obtain⟨d,hd,rfl⟩:=List.mem_map.1 hx
 have:=mF fs f d.2
 have:=ni hd
 omega
theorem kZ {fs:List FV}{ds:List Doc}(h:dsz ds≤30000000) (hn:ds.length≤4096):∀n,(j5 fs ds n).length≤20490*n
 | 0=> by simp[j5]
 |n+1=> by
  have h1:=kZ (fs:=fs) h hn n
  have h2:=gl (qg fs h n) (aV)
  rw[show(dT fs ds n).length=ds.length from by rw[dT,Yh]]at h2
  have e:j5 fs ds (n+1)=j5 fs ds n++fB (dT fs ds n):=by simp[j5,List.range_succ]
  rw[e,Ya];omega
theorem Fb {fs:List FV}{ds:List Doc}(h:dsz ds≤30000000) (n:Nat):∀x∈j5 fs ds n,x<256:=by
 intro x hx
 obtain⟨f,_,hx⟩:=List.mem_flatMap.1 hx
 exact py (qg fs h f) x hx
theorem xT:∀(l:List Int) (n:Int),∀x∈dz n l,x<256
 | [],_,x,hx=> by simp[dz]at hx
 |y::l,n,x,hx=> by
  rw[dz]at hx
  rcases List.mem_append.1 hx with hx|hx
  ·exact gH _ x hx
  ·exact xT l _ x hx
theorem ny.blocks {fs:List FV}{ds:List Doc}(h:ny fs ds):(∀q∈ld fs ds,0<q.1∧q.1<256∧∀x∈q.2,x<256)∧(da (ld fs ds)).length≤1000000000∧uV (gT 0 (dy (gA fs ds)))∧(ez (dy (gA fs ds))).length≤2147483647:=by
 have hg:=h.goodT
 have ht:=h.toks
 have hz:=h.size
 have hn:=h.few
 have hfl:=h.flen
 have hE:=IM hg ht
 have h1:=vu hg
 have h2:=tE (gA fs ds)
 have h3:=G5 hE (by rw[iR];omega)
 rw[iR]at h3
 have h4:=nY h.chk
 have h5:=kZ (fs:=fs) hz hn fs.length
 have h6:=jl (fs:=fs) (ds:=ds) (a8) h.q
 have h7:=mq (l:=ds.map (·.1)) h.pos (fun x hx=> by obtain⟨d,hd,rfl⟩:=List.mem_map.1 hx;have:=h.ids d hd;omega)
 rw[Yh]at h7
 have h8:=dM (n:=ds.length) (k:=6) (a8) (a8)
 have hI:(qi ds).length≤10*4096+6:=by rw[qi,Ya];omega
 refine⟨?_,?_,hE,a8⟩
 ·intro q hq
  simp only[ld,List.mem_cons,List.not_mem_nil,or_false]at hq
  rcases hq with rfl|rfl|rfl|rfl|rfl|rfl
  ·exact⟨aj,aj,qz h.chk⟩
  ·refine⟨aj,aj,fun x hx=> ?_⟩
   rcases List.mem_append.1 hx with hx|hx
   ·exact gH _ x hx
   ·exact xT _ _ x hx
  ·exact⟨aj,aj,Fb hz _⟩
  ·exact⟨aj,aj,yQ _⟩
  ·refine⟨aj,aj,fun x hx=> ?_⟩
   obtain⟨p,hp,hx⟩:=List.mem_flatMap.1 hx
   obtain⟨i,hi⟩:=List.getElem?_of_mem hp
   obtain⟨_,h9,_⟩:=nO hi
   rw[h9]at hx
   exact G0 (qj hg).2.1 x hx
  ·refine⟨aj,aj,fun x hx=> ?_⟩
   obtain⟨d,_,hx⟩:=List.mem_flatMap.1 hx
   rcases List.mem_append.1 hx with hx|hx
   ·exact gH _ x hx
   ·obtain⟨v,_,hx⟩:=List.mem_flatMap.1 hx
    rcases List.mem_append.1 hx with hx|hx
    ·exact gH _ x hx
    ·rcases List.mem_append.1 hx with hx|hx
     ·exact gH _ x hx
     ·exact ko _ x hx
 ·have hu:∀n,n<1099511627776→(uv n).length≤6:=fun n hn=> dM hn (a8)
  simp only[da,ld,List.flatMap_cons,List.flatMap_nil,Ya,Yc,ft]
  have u1:=hu (fq fs).length (a8)
  have u2:=hu (qi ds).length (a8)
  have u3:=hu (j5 fs ds fs.length).length (a8)
  have u4:=hu (fU (gT 0 (dy (gA fs ds)))).length (a8)
  have u5:=hu (ez (dy (gA fs ds))).length (a8)
  have u6:=hu (fw fs ds).length (a8)
  omega
def kh:Prop:=∀(G:cM) (H R:cG) (s:SV) (ss:List ByteArray),pI H s eS ss R→ss.length≤1000000000→SC G Tryz.prog 177 [s.val] H (fun v H'=> v= .tuple #[]∧∃ss':List ByteArray,ss'.Perm ss∧(ss'.map cF).Pairwise (fun a b=> ¬b<a)∧H'=Row s eS ss'::R)
theorem rS:∀{l:List (List Nat)},l.Nodup→l.Pairwise (fun a b=> ¬b<a)→o7 l
 | [],_,_=> List.Pairwise.nil
 |a::l,hn,h=> by
  obtain⟨h1,h2⟩:=List.nodup_cons.1 hn
  obtain⟨h3,h4⟩:=List.pairwise_cons.1 h
  refine List.pairwise_cons.2 ⟨fun b hb=> ?_,rS h2 h4⟩
  by_cases hlt:a<b
  ·exact hlt
  ·exact absurd (ud hlt (fun e=> h1 (e ▸ hb))) (h3 b hb)
theorem LO {H R:cG}{es:List EG}{i:Nat}{e:EG}(hr:mL H (Cl egH es) R) (he:es[i]? =some e):Sl H e.s ePo (e.l.map pgV):=
 fy (eV hr (wX he)) inferInstance
theorem Be {H R:cG}{es:List EG}{i:Nat}{e:EG}(hr:mL H (Cl egH es) R) (he:es[i]? =some e):lI H (e.l.map pgV) (e.l.map pgP):=by
 refine⟨aj,fun j p q hp hq=> ?_⟩
 rw[Xd]at hp hq
 cases hj:e.l[j]? with
 |none=> rw[hj]at hp;cases hp
 |some x=>
  rw[hj]at hp hq
  obtain rfl:=Option.some.inj hp
  obtain rfl:=Option.some.inj hq
  exact⟨rfl,show Sl H x.s eI (dg x.pos)from fy (eV hr ((wX he).trans (cK.drop (wF hj)))) inferInstance⟩
theorem JM {G:cM}{H R:cG}{g r:Nat}{v1 v2 v3:Value}{ts:List Tri} [hg0:Glb G R] [hv:dh R g [v1,v2,v3, .map (some r)]] [hr:Rem H iX r ts R] (hS:kh) (hgd:uQ ts) (hok:uV (gT 0 (dy ts))) (hpl:(ez (dy ts)).length≤2147483647):SC G Tryz.prog 154 [.pointer (some ⟨g,0,none⟩)] H (fun v H'=> ∃a b:SV,v= .tuple #[a.val,b.val, .nilIface]∧H'=Row a eB (fU (gT 0 (dy ts)))::Row b eB (ez (dy ts))::R):=by
 have hfew:=hgd.few
 refine sWk Tryz.func154 Tryz.ntmps154 ?_
 refine ws_ (wr_ (e_ asn (k:=e_ asn (k:=e_ asn (k:=on_ (qn_ (ws_ (wr_ (?_)))))))))
 refine Bj hr fun es htk=> ?_
 have hnk:=rn htk
 have hkl:(kvs es).length≤ts.length:=by
  have h1:=my (m:=ts.map (·.1)) htk.nodup fun x hx=> (htk.keys x).1 hx
  simpa [mK,kvs] using h1
 refine e_ mv (k:=e_ nck (k:=e_ fla (k:=e_ ldv (k:=?_))))
 refine e_ (II rfl) (k:=?_)
 refine s_ (gD eS ⟨#[]⟩ rfl rfl 0 (kvs es).length rfl rfl rfl (a8) (a8) (a8)) (k:=?_)
 rintro _ _ ⟨s24,rfl,hs24n,hs24c,rfl⟩
 refine go ?_
 refine s_ (DF rfl) (k:=?_)
 rintro _ _ ⟨it,rfl,rfl⟩
 refine gk (k:=dn ((List ByteArray)×SV) (fun y=> y.1.Nodup∧∀k∈y.1,k∈(kvs es).map (·.1)) (fun y=> [(5,y.2.val)]) [(0,_),(29,_)] (fun y=> [Rg (r,it) (kvs es,y.1),Row y.2 eS y.1]) _ (fun y=> (kvs es).length - y.1.length) (([],s24)) (h0:=?_) (k:=?_))
 ·try dsimp only
  exact⟨List.nodup_nil,fun k hk=> by simp at hk⟩
 rintro⟨done,s⟩ ⟨hdn,hdk⟩
 try dsimp only[Yd,Ye]at*
 refine go ?_
 refine s_ (Hg (r:=r) rfl) (k:=?_)
 rintro _ _ (⟨i,k,v,hkv,hkd,rfl,rfl⟩|⟨hall,rfl,rfl⟩)
 ·have hdn2:(done++ [k]).Nodup:=List.nodup_append.2 ⟨hdn,aj,fun a ha b hb=> by simp at hb;subst hb;rintro rfl;exact hkd ha⟩
  have hdk2:∀x∈done++ [k],x∈(kvs es).map (·.1):=fun x hx=> by
   rcases List.mem_append.1 hx with hx|hx
   ·exact hdk x hx
   ·simp at hx;subst hx;exact List.mem_map.2 ⟨_,Yj hkv,rfl⟩
  have hdl:=my hdn2 hdk2
  rw[Ya,Yh,List.length_singleton]at hdl
  refine gk (k:=ift (k:=go ?_))
  refine e_ (FT (q:=(kvs es,done++ [k])) (r:=r) (it:=it) rfl rfl hkv) (k:=?_)
  refine gk (k:=dD eS (k:=fun s36=>?_))
  refine app (k:=fun s37=>?_)
  refine go ?_
  refine ln_ ((done++ [k],s37)) (h2:=?_) (k:=?_)
  ·try dsimp only
   rw[Ya,List.length_singleton];omega
  try dsimp only
  exact⟨hdn2,hdk2⟩
 have hdl:=my hdn hdk
 rw[Yh]at hdl
 have hpm:done.Perm ((kvs es).map (·.1)):=(List.perm_ext_iff_of_nodup hdn hnk).2 fun x=> ⟨hdk x,fun hx=> by obtain⟨p,hp,rfl⟩:=List.mem_map.1 hx;exact hall p hp⟩
 refine gk (k:=dw (k:=go ?_))
 refine dE (J7 (r:=r) (it:=it) inferInstance cK.refl) ?_
 refine go ?_
 refine c1_ rfl (hS G _ _ s done inferInstance (a8)) (k:=?_)
 rintro _ _ ⟨rfl,ks,hpk,hsort,rfl⟩
 have hkp:=hpk.trans hpm
 have hksl:ks.length=(kvs es).length:=by rw[hkp.length_eq,Yh]
 have hkr:ks.map cF=mm (ts.map (·.1)):=by
  refine tH (rS ?_ hsort) (jd _) fun x=> ?_
  ·have h1:=(hkp.map cF).nodup_iff.2 (by have h2:=htk.nodup;rw[oK]at h2;simpa [Function.comp_def] using h2)
   exact h1
  ·rw[jO,←htk.keys,oK,(hkp.map cF).mem_iff];simp[Function.comp_def]
 have hrl:(dy ts).length=ks.length:=by rw[dy,Yh,←hkr,Yh]
 have hrg:∀{i:Nat}{q:ByteArray},ks[i]? =some q→(dy ts)[i]? =some (cF q,jf (ofK ts (cF q))):=fun{i q} hq=> by rw[dy,Xd,←hkr,Xd,hq];all_goals rfl
 have hel:=iR (dy ts) 0
 refine go ?_
 refine c0_ rfl (fC) (k:=?_)
 rintro _ _ ⟨bw,rfl,rfl⟩
 refine go ?_
 refine s_ (gD eEn ⟨⟨#[]⟩,0,0,0,0⟩ rfl rfl 0 ks.length rfl rfl rfl (a8) (a8) (a8)) (k:=?_)
 rintro _ _ ⟨s43,rfl,hs43n,hs43c,rfl⟩
 refine e_ asn (k:=on_ (qn_ (ws_ (ws_ (wr_ (?_))))))
 rw[show Row s43 eEn (List.replicate 0 (⟨⟨#[]⟩,0,0,0,0⟩:En))=Row s43 eEn ((gT 0 (dy ts)).take 0)from rfl,show Wr bw []=Wr bw (ez ((dy ts).take 0))from rfl]
 refine gk (k:=dn (Nat×SV) (fun y=> y.1≤ks.length) (fun y=> [(8,y.2.val),(46, .int .i64 ((y.1:Nat):Int))]) [(0,_),(7,_),(44,_),(45,_)] (fun y=> [Row y.2 eEn ((gT 0 (dy ts)).take y.1),Wr bw (ez ((dy ts).take y.1))]) _ (fun y=> ks.length - y.1) ((0,s43)) (h0:=?_) (k:=?_))
 ·try dsimp only
  exact Yl _
 rintro⟨i,u⟩ hi
 try dsimp only[Yd,Ye]at*
 refine gk (k:=wi_ (k:=fun h1=>?_) (m:=fun h1=>?_))
 ·obtain⟨q,hq⟩:∃q,ks[i]? =some q:=⟨_,Yi (a8)⟩
  have hri:=hrg hq
  have hei:=oD (n:=0) hri
  have hqm:q∈(kvs es).map (·.1):=hkp.mem_iff.1 (Yj hq)
  have hgo:=qj hgd (k:=cF q)
  have hptl:(ez ((dy ts).take (i+1))).length≤(ez (dy ts)).length:=ot _ _
  rw[nP hri,Ya]at hptl
  rw[Nat.zero_add]at hei
  simp only at hei hptl
  refine go ?_
  refine go ?_
  refine s_ (xF rfl rfl) (k:=?_)
  rintro _ _ ⟨rfl,(⟨m,e,he,hek,rfl⟩|⟨hno,rfl⟩)⟩
  ·have hev:=htk.vals _ (Yj (qM he))
   simp only[hek]at hev
   rw[←hev]at hri hei hptl hgo
   refine e_ asn (k:=on_ (qn_ (ws_ (wr_ (?_)))))
   haveI hsle:=LO (H:=Cl egH es::R) inferInstance he
   have hvp:(e.l.map pgV).length=(e.l.map pgP).length:=aj
   have hin:=Be (H:=Cl egH es::R) inferInstance he
   have hvl:(e.l.map pgV).length=e.l.length:=aj
   have hgs:=hgo.2.1.1
   refine go ?_
   refine c1_ rfl (JQ (Be inferInstance he) hgo.1 hgo.2.1 (a8)) (k:=?_)
   rintro _ _ ⟨s58,rfl,rfl⟩
   refine e_ mv (k:=e_ exr (k:=e_ exr (k:=e_ asn (k:=e_ asn (k:=on_ (qn_ (ws_ (ws_ (wr_ (e_ mv (k:=?_)))))))))))
   refine e_ (cN rfl) (k:=?_)
   refine gk (k:=dw (k:=go ?_))
   refine d1_ rfl (MJ) (k:=e_ mv (k:=e_ lnn (k:=e_ (bld [(0,_),(1,_),(3,_),(4,_)]) (k:=alc (k:=fun b14=>?_)))))
   refine sto (k:=on_ (qn_ (ws_ (ws_ (wr_ (?_))))))
   rw[show Vr b14 [.string q, .int .i64 (((e.l.map pgV).length:Nat):Int), .int .i64 0, .int .i64 (((ez ((dy ts).take i)).length:Nat):Int), .int .i64 (((j7 (e.l.map pgP)).length:Nat):Int)]=Vr b14 [.string q, .int .i64 (((e.l.map pgP).length:Nat):Int), .int .i64 ((dx ((e.l.map pgP).take 0):Nat):Int), .int .i64 (((ez ((dy ts).take i)).length:Nat):Int), .int .i64 (((j7 (e.l.map pgP)).length:Nat):Int)]from by rw[hvp];all_goals rfl]
   refine gk (k:=dn (Nat) (fun y=> y≤(e.l.map pgV).length) (fun y=> [(74, .int .i64 ((y:Nat):Int))]) [(0,_),(7,_),(8,_),(12,_),(14,_),(44,_),(45,_),(46,_),(72,_),(73,_)] (fun y=> [Vr b14 [.string q, .int .i64 (((e.l.map pgP).length:Nat):Int), .int .i64 ((dx ((e.l.map pgP).take y):Nat):Int), .int .i64 (((ez ((dy ts).take i)).length:Nat):Int), .int .i64 (((j7 (e.l.map pgP)).length:Nat):Int)]]) _ (fun y=> (e.l.map pgV).length - y) (0) (h0:=?_) (k:=?_))
   ·try dsimp only
    exact Yl _
   rintro m hm
   try dsimp only[Yd,Ye]at*
   refine gk (k:=wi_ (k:=fun h2=>?_) (m:=fun h2=>?_))
   ·obtain⟨lp,hlp⟩:∃lp,e.l[m]? =some lp:=⟨_,Yi (a8)⟩
    have hlv:(e.l.map pgV)[m]? =some (lp.d,lp.s):=by rw[Xd,hlp];all_goals rfl
    have hlq:(e.l.map pgP)[m]? =some (lp.d,lp.pos):=by rw[Xd,hlp];all_goals rfl
    haveI hslp:Sl (Cl egH es::R) lp.s eI (dg lp.pos):=(hin.2 m _ _ hlv hlq).2
    have hil:=dX lp.pos
    have htk2:=oe hlq
    simp only at htk2
    have htl:dx ((e.l.map pgP).take (m+1))≤dx (e.l.map pgP):=by
     conv=> rhs;rw[←List.take_append_drop (m+1) (e.l.map pgP),j3]
     exact Nat.le_add_right _ _
    refine gk (k:=alc (k:=fun b16=>?_))
    refine sto (k:=on_ (qn_ (wr_ (e_ fla (k:=e_ ldv (k:=e_ fla (k:=e_ ldv (k:=e_ lnn (k:=?_)))))))))
    refine e_ (evq iad (congrArg (Value.int .i64) (show _=((dx ((e.l.map pgP).take (m+1)):Nat):Int)from a8))) (k:=?_)
    refine go ?_
    refine ln_ (m+1) (k:=?_)
    try dsimp only
    omega
   obtain rfl:m=(e.l.map pgV).length:=a8
   rw[show(e.l.map pgP).take (e.l.map pgV).length=e.l.map pgP from by rw[hvp,List.take_length]]
   have hek2:dO (cF q)=q:=jk _
   rw[hek2]at hei
   have hent:=cP hei
   have htkl:((gT 0 (dy ts)).take i).length≤ks.length:=ax
   refine gk (k:=dD eEn (k:=fun s88=>?_))
   refine app (k:=fun s89=>?_)
   rw[←hent]
   refine go ?_
   refine d2_ rfl (zn (a8) (a8)) (k:=?_)
   rw[show ez ((dy ts).take i)++j7 (e.l.map pgP)=ez ((dy ts).take (i+1))from(nP hri).symm]
   refine go ?_
   refine ln_ ((i+1,s89)) (k:=?_)
   try dsimp only
   omega
  exact absurd hqm hno
 obtain rfl:i=ks.length:=a8
 rw[show(gT 0 (dy ts)).take ks.length=gT 0 (dy ts)from by rw[←hrl,←hel,List.take_length],show(dy ts).take ks.length=dy ts from by rw[←hrl,List.take_length]]
 refine go ?_
 refine c1_ rfl (LL (a8) hok) (k:=?_)
 rintro _ _ ⟨s96,rfl,rfl⟩
 refine go ?_
 refine c1_ rfl (iB (a8)) (k:=?_)
 rintro _ _ ⟨s101,rfl,rfl⟩
 refine gk (k:=rt_ Tryz.results154 (k:=?_))
 exact⟨_,hsb,s96,s101,rfl,rfl⟩
end Go.Sx
