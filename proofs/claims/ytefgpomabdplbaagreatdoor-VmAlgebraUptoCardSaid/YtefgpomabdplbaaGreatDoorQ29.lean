import Derived.Test.YtefgpomabdplbaaGreatDoorQ28
import Derived.Laws.StructEq
set_option linter.unusedVariables false
set_option linter.unusedSimpArgs false
set_option linter.unusedSectionVars false
set_option linter.unnecessarySimpa false
set_option maxHeartbeats 0
namespace Go.Sx
open Go Go.Proofs
set_option maxRecDepth 100000
def l7 (fs:List FV):Int→List Doc→Nat
 |_, []=> 0
 |la,d::r=> if d.1<0∨1099511627776≤d.1 then 8 else if d.1≤la then 4 else if gy fs d.2=0 then l7 fs d.1 r else gy fs d.2
def oF (fs:List FV) (ds:List Doc):Nat:=if fI fs=false then 11 else if 4096<ds.length then 3 else l7 fs (-1) ds
theorem zn {fs:List FV}:∀{ds:List Doc}{la:Int},l7 fs la ds=0→(∀d∈ds,0≤d.1∧d.1<1099511627776∧gy fs d.2=0)∧(∀d,ds.head? =some d→la<d.1)∧rise (ds.map (·.1))=true
 | [],_,_=> ⟨an,an,rfl⟩
 |d::r,la,h=> by
  rw[l7]at h
  split at h
  ·cases h
  ·split at h
   ·cases h
   ·split at h
    ·rename_i h1 h2 h3
     obtain⟨i1,i2,i3⟩:=zn h
     refine⟨fun e he=> ?_,fun e he=> by simp at he;subst he;omega,?_⟩
     ·rcases List.mem_cons.1 he with rfl|he
      ·exact⟨aa,aa,h3⟩
      ·exact i1 e he
     ·rw[List.map_cons,lK]
      refine⟨fun y hy=> ?_,i3⟩
      rw[List.head?_map]at hy
      cases hr:r.head? with
      |none=> rw[hr]at hy;cases hy
      |some e=> rw[hr]at hy;obtain rfl:=Option.some.inj hy;exact i2 e hr
    ·rename_i h3;exact absurd h h3
theorem mZ {fs:List FV}{ds:List Doc}(h:oF fs ds=0) (hz:dsz ds≤30000000) (ht:(eE fs ds).length≤2000000):jF fs ds:=by
 rw[oF]at h
 split at h
 ·cases h
 ·split at h
  ·cases h
  ·rename_i h1 h2
   obtain⟨i1,i2,i3⟩:=zn h
   refine⟨by simpa using h1,aa,?_,i3,fun d hd=> (i1 d hd).2.1,fun d hd=> (i1 d hd).2.2,hz,ht⟩
   rw[kf]
   intro i x hx
   rw[Xd]at hx
   cases hd:ds[i]? with
   |none=> rw[hd]at hx;cases hx
   |some d=> rw[hd]at hx;obtain rfl:=Option.some.inj hx;exact(i1 d (Yj hd)).1
theorem LZ {G:cK}{H:cG}{s vv:SV}{fs:List FV}{vs:List Val} [hg:Glb G H] [hf:Sl H s eF fs] [hv:Sl H vv eVl vs] (hn:fs.length≤1000000) (hfn:∀f∈fs,f.name.size≤1000000000) (hvn:vs.length≤1000000000) (hq:∀v∈vs,v.2.size≤1000000000):SC G Tryz.prog 105 [.agg [s.val].toArray,vv.val] H (fun v H'=> H'=H∧((gy fs vs=0∧v= .nilIface)∨(gy fs vs≠0∧∃k,k<24∧v=G.err k))):=
 (O1 hn hfn hvn hq).mono fun v H' ⟨h1,h2⟩=> ⟨h2,by
   subst h1
   by_cases h:gy fs vs=0
   ·exact .inl ⟨h,by rw[h];all_goals rfl⟩
   ·refine .inr ⟨h,?_⟩
    unfold P0
    rw[if_neg h]
    split
    ·exact⟨0,ag,rfl⟩
    ·split
     ·exact⟨4,ag,rfl⟩
     ·split
      ·exact⟨11,ag,rfl⟩
      ·exact⟨12,ag,rfl⟩⟩
theorem F7 {G:cK}{H:cG}{fv dv:SV}{fs:List FV}{l:List (Int×SV)}{ds:List Doc} [hg:Glb G H] [Tab H 27 lg] [Tab H 25 jP] [hf:Sl H fv eF fs] [hd:Sl H dv eD l] [Spc H] (hT:gU G) (hS:lz) (hdi:ga H l ds) (hfl:fs.length≤1000000) (hfn:∀f∈fs,f.name.size≤1000000000) (hn:ds.length≤1000000000) (hq:∀d∈ds,d.2.length≤1000000000∧∀v∈d.2,v.2.size≤1000000000) (hz:dsz ds≤30000000) (ht:(eE fs ds).length≤2000000):
 SC G Tryz.prog 51 [.agg [fv.val].toArray,dv.val] H (fun v H'=> (oF fs ds=0∧∃s:SV,v= .tuple #[s.val, .nilIface]∧H'=Row s eB (y7 fs ds)::H)∨(oF fs ds≠0∧∃k,k<24∧v= .tuple #[.slice none 0 0,G.err k]∧H'=H)):=by
 have hll:=hdi.1
 refine sWk Tryz.func51 Tryz.ntmps51 ?_
 refine gk (k:=bxx (k:=fun b2=>?_))
 refine go ?_
 refine c1_ rfl (wq (fs:=fs) (aa) (fun f hf=> by have:=hfn f hf;omega)) (k:=?_)
 rintro _ _ ⟨rfl,(⟨hc,rfl⟩|⟨hc,rfl⟩)⟩
 ·refine e_ asn (k:=on_ (qn_ (ws_ (wr_ (e_ mv (k:=?_))))))
  refine e_ (cZ rfl) (k:=?_)
  refine gk (k:=ift (k:=gk (k:=rt_ Tryz.results51 (k:=?_))))
  exact⟨_,hsb, .inr ⟨by rw[oF,if_pos hc];decide,0,ag,rfl,rfl⟩⟩
 refine e_ asn (k:=on_ (qn_ (ws_ (wr_ (e_ mv (k:=?_))))))
 refine e_ (cM rfl) (k:=?_)
 refine gk (k:=eg (k:=gk (k:=wi_ (k:=fun h1=>?_) (m:=fun h1=>?_))))
 ·have hcd:oF fs ds=3:=by rw[oF,if_neg (by rw[hc];decide),if_pos (aa)]
  refine go ?_
  refine cX cI (as_ 0 (q:=ldv) (k:=as_ 1 (q:=asn) (k:=as_ 2 (q:=asn) (k:=az_ (k:=gk (k:=rt_ Tryz.results51 (k:=?_)))))))
  exact⟨_,hsb, .inr ⟨by rw[hcd];decide,4,ag,rfl,rfl⟩⟩
 have hcd:oF fs ds=l7 fs (-1) ds:=by rw[oF,if_neg (by rw[hc];decide),if_neg (aa)]
 refine go ?_
 refine gk (k:=dt (Nat×Int) (fun y=> y.1≤l.length∧l7 fs (-1) ds=l7 fs y.2 (ds.drop y.1)) (fun y=> [(7, .int .i64 y.2),(22, .int .i64 ((y.1:Nat):Int))]) [(1,_),(2,_),(20,_),(21,_)] (fun y=> []) _ (fun y=> l.length - y.1) ((0, -1)) (h0:=?_) (k:=?_))
 ·try dsimp only
  exact⟨Yl _,rfl⟩
 rintro⟨i,la⟩ ⟨hi,hck⟩
 try dsimp only[Yd,Ye]at*
 refine gk (k:=wi_ (k:=fun h2=>?_) (m:=fun h2=>?_))
 ·obtain⟨d,s,vs,hli,hdj,hsl⟩:=hdi.get (i:=i) (aa)
  obtain⟨hq1,hq2⟩:=hq _ (Yj hdj)
  rw[dF hdj,l7]at hck
  simp only at hq1 hq2 hck
  refine gk (k:=alc (k:=fun b9=>?_))
  refine gk (k:=dN 4 34 (k:=fun h3=>gk (k:=edq)) (q:=go ?_))
  refine gk (k:=wi_ (k:=fun h4=>?_) (m:=fun h4=>?_))
  ·rw[if_pos (aa)]at hck
   refine go ?_
   refine cX cI (as_ 0 (q:=ldv) (k:=as_ 1 (q:=asn) (k:=as_ 2 (q:=asn) (k:=az_ (k:=go ?_)))))
   refine rt_ Tryz.results51 (k:=?_)
   exact⟨_,hsb, .inr ⟨by rw[hcd,hck];decide,1,ag,rfl,rfl⟩⟩
  rw[if_neg (aa)]at hck
  refine gk (k:=wi_ (k:=fun h5=>?_) (m:=fun h5=>?_))
  ·rw[if_pos (aa)]at hck
   refine go ?_
   refine cX cI (as_ 0 (q:=ldv) (k:=as_ 1 (q:=asn) (k:=as_ 2 (q:=asn) (k:=az_ (k:=go ?_)))))
   refine rt_ Tryz.results51 (k:=?_)
   exact⟨_,hsb, .inr ⟨by rw[hcd,hck];decide,5,ag,rfl,rfl⟩⟩
  rw[if_neg (aa)]at hck
  refine go ?_
  refine go ?_
  refine c2_ rfl (LZ hfl hfn hq1 hq2) (k:=?_)
  rintro _ _ ⟨rfl,(⟨hgl,rfl⟩|⟨hgl,k,hk,rfl⟩)⟩
  ·rw[if_pos hgl]at hck
   refine e_ asn (k:=on_ (qn_ (ws_ (wr_ (e_ mv (k:=?_))))))
   refine e_ (cM rfl) (k:=?_)
   refine gk (k:=eg (k:=go ?_))
   refine ln_ ((i+1,d)) (k:=?_)
   try dsimp only
   exact⟨aa,hck⟩
  rw[if_neg hgl]at hck
  refine e_ asn (k:=on_ (qn_ (ws_ (wr_ (e_ mv (k:=?_))))))
  refine e_ (cZ rfl) (k:=?_)
  refine gk (k:=ift (k:=go ?_))
  refine gk (k:=rt_ Tryz.results51 (k:=?_))
  exact⟨_,hsb, .inr ⟨by rw[hcd,hck];exact hgl,k,hk,rfl,rfl⟩⟩
 obtain rfl:i=l.length:=aa
 rw[hll,List.drop_length]at hck
 have hok:=mZ (hcd.trans hck) hz ht
 have hsz:=hok.size
 have hfew:=hok.few
 refine go ?_
 refine c2_ rfl (BE (ds:=ds) hT (hdi.less (hsb)) hok.flen (aa) hok.q hsz) (k:=?_)
 rintro _ _ ⟨g,lv,r,zs,rfl,hzs,rfl⟩
 refine c1_ rfl (LW (r:=r) (l:=l) (zs:=zs) (fs:=fs) (ds:=ds) hS hok (hdi.less (hsb)) hzs) (k:=?_)
 rintro _ _ ⟨s55,rfl,rfl⟩
 refine gk (k:=rt_ Tryz.results51 (k:=?_))
 exact⟨_,hsb, .inl ⟨hcd.trans hck,s55,rfl,rfl⟩⟩
abbrev uP:=ByteArray×Nat×Nat
def ltS (a b:uP):Prop:=cF a.1<cF b.1∨cF a.1=cF b.1∧(a.2.1<b.2.1∨a.2.1=b.2.1∧a.2.2<b.2.2)
def leS (a b:uP):Prop:=¬ltS b a
theorem Ga {a b c:uP}(h:ltS a b) (h':ltS b c):ltS a c:=by
 rcases h with h|⟨h1,h2⟩
 ·rcases h' with h'|⟨h3,_⟩
  ·exact .inl (G9 h h')
  ·exact .inl (h3 ▸ h)
 ·rcases h' with h'|⟨h3,h4⟩
  ·exact .inl (h1 ▸ h')
  ·exact .inr ⟨h1.trans h3,by rcases h2 with h2|h2 <;> rcases h4 with h4|h4 <;> omega⟩
theorem Gb {a b:uP}(h:ltS a b):leS a b:=fun h'=> by
 have h9:=Ga h h'
 rcases h9 with h9|⟨_,h9⟩
 ·exact pb _ h9
 ·omega
theorem Gj {a b c:uP}(h:leS a b) (h':leS b c):leS a c:=fun hca=> by
 by_cases hab:ltS a b
 ·exact h' (Ga hca hab)
 ·
  have e:cF a.1=cF b.1:=by
   by_cases e:cF a.1=cF b.1
   ·exact e
   ·by_cases l:cF a.1<cF b.1
    ·exact absurd (.inl l) hab
    ·exact absurd (.inl (wD l e)) h
  have e2:a.2=b.2:=by
   have h1:¬(a.2.1<b.2.1∨a.2.1=b.2.1∧a.2.2<b.2.2):=fun hh=> hab (.inr ⟨e,hh⟩)
   have h2:¬(b.2.1<a.2.1∨b.2.1=a.2.1∧b.2.2<a.2.2):=fun hh=> h (.inr ⟨e.symm,hh⟩)
   exact Prod.ext (aa) (aa)
  have e3:a=b:=Prod.ext (kM.1 e) e2
  rw[e3]at hca
  exact h' hca
structure E7 (l out av bv:List uP):Prop where
 perm:(out++(av++bv)).Perm l
 up:out.Pairwise leS
 low:∀x∈out,∀y∈av++bv,leS x y
 ua:av.Pairwise leS
 ub:bv.Pairwise leS
theorem E7.left {l out av bv:List uP}{a:uP}(h:E7 l out (a::av) bv) (hb:∀b,bv.head? =some b→ltS a b):E7 l (out++ [a]) av bv:=by
 obtain⟨h1,h2⟩:=List.pairwise_cons.1 h.ua
 have hab:∀y∈bv,leS a y:=by
  intro y hy
  cases bv with
  |nil=> simp at hy
  |cons b bv=>
   have h3:=Gb (hb b rfl)
   rcases List.mem_cons.1 hy with rfl|hy
   ·exact h3
   ·exact Gj h3 ((List.pairwise_cons.1 h.ub).1 y hy)
 refine⟨by simpa using h.perm,List.pairwise_append.2 ⟨h.up,List.pairwise_singleton ..,fun x hx y hy=> ?_⟩,fun x hx y hy=> ?_,h2,h.ub⟩
 ·simp at hy;subst hy;exact h.low x hx y (an)
 ·rcases List.mem_append.1 hx with hx|hx
  ·exact h.low x hx y (by rcases List.mem_append.1 hy with hy|hy <;> simp[hy])
  ·simp at hx;subst hx
   rcases List.mem_append.1 hy with hy|hy
   ·exact h1 y hy
   ·exact hab y hy
theorem E7.right {l out av bv:List uP}{b:uP}(h:E7 l out av (b::bv)) (ha:∀a,av.head? =some a→leS b a):E7 l (out++ [b]) av bv:=by
 obtain⟨h1,h2⟩:=List.pairwise_cons.1 h.ub
 have hba:∀y∈av,leS b y:=by
  intro y hy
  cases av with
  |nil=> simp at hy
  |cons a av=>
   have h3:=ha a rfl
   rcases List.mem_cons.1 hy with rfl|hy
   ·exact h3
   ·exact Gj h3 ((List.pairwise_cons.1 h.ua).1 y hy)
 refine⟨?_,List.pairwise_append.2 ⟨h.up,List.pairwise_singleton ..,fun x hx y hy=> ?_⟩,fun x hx y hy=> ?_,h.ua,h2⟩
 ·refine List.Perm.trans ?_ h.perm
  rw[Yf]
  exact List.Perm.append_left _ (by simpa using (List.perm_middle (a:=b) (l₁:=av) (l₂:=bv)).symm)
 ·simp at hy;subst hy;exact h.low x hx y (an)
 ·rcases List.mem_append.1 hx with hx|hx
  ·exact h.low x hx y (by rcases List.mem_append.1 hy with hy|hy <;> simp[hy])
  ·simp at hx;subst hx
   rcases List.mem_append.1 hy with hy|hy
   ·exact hba y hy
   ·exact h1 y hy
theorem MP (ts:List Tri):Bk (dm ts) ts:=⟨by rw[tv];exact iz _,fun k=> by rw[tv,jk],fun e he=> by
 obtain⟨k,_,rfl⟩:=List.mem_map.1 he;rfl⟩
theorem qz.less {H H':cG}{l:List (Nat×SV)}{ps:List Po}(h:qz H l ps) (hs:cJ H' H):qz H' l ps:=⟨h.1,fun i p q hp hq=> by
 obtain⟨h1,h2⟩:=h.2 i p q hp hq
 exact⟨h1,dD hs h2⟩⟩
theorem Kw {G:cK}{H:cG}{s s2:SV}{xs ys:List Nat} [Sl H s eB xs] [Sl H s2 eB ys] (hx:∀x∈xs,x<256) (hy:∀x∈ys,x<256):SC G Tryz.prog 110 [s.val,s2.val] H (fun v H'=> v= .bool (decide (xs=ys))∧H'=H):=by
 refine sWk Tryz.func110 Tryz.ntmps110 ?_
 refine ws_ (wr_ (e_ asn (k:=on_ (qn_ (ws_ (wr_ (e_ mv (k:=?_))))))))
 refine e_ (eN rfl) (k:=?_)
 refine e_ mv (k:=?_)
 refine e_ (eN rfl) (k:=?_)
 refine e_ (mQ rfl rfl) (k:=?_)
 refine gk (k:=rt_ Tryz.results110 (k:=?_))
 exact⟨_,cJ.refl,by rw[fa hx,fa hy];all_goals rfl,rfl⟩
section
variable {G:cK}{t:Tm}{H:cG}{dst:Option Tmp}{ty:TypeId}{pos:String}{after:Array Edge}{g:Option (Nat×Bool)}
end
theorem uD.one {H:cG}{a b:SV}{x:List Nat}{y:List Int}(ha:Sl H a eB x) (hb:Sl H b eI y):uD H [(a,b)] [(x,y)]:=
 (uD.nil (F:=H)).snoc a b x y (fun _ _ h=> h) (fun _ _ h=> h) ha hb
theorem uD.ext {F F':cG}{l:List (SV×SV)}{ps:Pcs}(h:uD F l ps) (hF:∀(s:SV) (b:List Nat),Sl F s eB b→Sl F' s eB b) (hF2:∀(s:SV) (b:List Int),Sl F s eI b→Sl F' s eI b):uD F' l ps:=
 ⟨h.1,fun i p q hp hq=> ⟨hF _ _ (h.2 i p q hp hq).1,hF2 _ _ (h.2 i p q hp hq).2⟩⟩
def ll (fs:List FV):Nat→List Nat→Option (List Val×Nat)
 | 0,_=> some ([],0)
 |n+1,l=> match fG (fs.length - 1) l with
  | .error _=> none
  | .ok (f,m)=> match jK 4096 (l.drop m)with
   | .error _=> none
   | .ok (q,c)=> match ll fs n (l.drop (m+c))with
        |none=> none
        |some (r,e)=> some ((((fs[f]?).map (·.name)).getD ByteArray.empty,dL q)::r,m+c+e)
def ku (fs:List FV):List Int→List Nat→Option (List Doc×Nat)
 | [],_=> some ([],0)
 |d::r,l=> match fG 64 l with
  | .error _=> none
  | .ok (n,m)=> match ll fs n (l.drop m)with
   |none=> none
   |some (vs,c)=> match ku fs r (l.drop (m+c))with
        |none=> none
        |some (ds,e)=> some ((d,vs)::ds,m+c+e)
def kJ (fs:List FV) (ids body:List Nat):Option (List Doc):=match eH 4096 ids with
 | .error _=> none
 | .ok (l,m)=> if m<ids.length then none else match ku fs l body with
  |none=> none
  |some (ds,c)=> if c<body.length then none else some ds
def rK {α:Type}(zs:List α) (a:Nat):Option (List α×Nat)→Option (List α×Nat)
 |none=> none
 |some (r,e)=> some (zs++r,a+e)
theorem Cd {α:Type}(o:Option (List α×Nat)):rK [] 0 o=o:=by
 cases o with
 |none=> rfl
 |some p=> simp[rK]
structure DG where
 d:Int
 s:SV
 vs:List Val
def dgV (z:DG):Int×SV:=(z.d,z.s)
def dgD (z:DG):Doc:=(z.d,z.vs)
def dgH (z:DG):cG:= [Row z.s eVl z.vs]
theorem Cr {l:List DG}(z:DG) {H:cG}:cJ (Row z.s eVl z.vs::Cl dgH l::H) (Cl dgH (l++ [z])::H):=mX (f:=dgH) z
theorem Cs {H R:cG}{zs:List DG}(hr:nd H (Cl dgH zs) R):ga H (zs.map dgV) (zs.map dgD):=by
 refine⟨an,fun i p q hp hq=> ?_⟩
 rw[Xd]at hp hq
 cases hi:zs[i]? with
 |none=> rw[hi]at hp;cases hp
 |some z=>
  rw[hi]at hp hq
  obtain rfl:=Option.some.inj hp
  obtain rfl:=Option.some.inj hq
  exact⟨rfl,show Sl H z.s eVl z.vs from dD (fm hr (mY (f:=dgH) hi)) (inferInstanceAs (Sl (Row z.s eVl z.vs::_) z.s eVl z.vs))⟩
theorem xM {α β:Type}(l:List α) (m:List β) (g:α→β→Nat):(l.map fun a=> (m.map (g a)).sum).sum=(m.map fun b=> (l.map fun a=> g a b).sum).sum:=by
 induction l with
 |nil=> simp only[List.map_nil,List.sum_nil];induction m with
  |nil=> rfl
  |cons b m ih=> simp only[List.map_cons,List.sum_cons,Nat.zero_add];exact ih
 |cons a l ih=>
  simp only[List.map_cons,List.sum_cons,ih]
  clear ih
  induction m with
  |nil=> rfl
  |cons b m ih=> simp only[List.map_cons,List.sum_cons]at ih⊢;omega
theorem sX {α:Type}{l:List α}{f g:α→Nat}(h:∀x∈l,f x≤g x):(l.map f).sum≤(l.map g).sum:=by
 induction l with
 |nil=> exact Nat.le_refl _
 |cons a l ih=>
  have h1:=h a (an)
  have h2:=ih fun x hx=> h x (Xa _ hx)
  simp only[List.map_cons,List.sum_cons];omega
def gv (fs:List FV) (f:Nat) (v:Val):Nat:=match fs[f]? with
 |some p=> if cF v.1=cF p.name then v.2.size+1 else 0
 |none=> 0
theorem Cf (p:FV) (vs:List Val):∀i,(eZ p vs i).2.length≤((vs.take i).map fun v=> if cF v.1=cF p.name then v.2.size+1 else 0).sum
 | 0=> by simp[eZ]
 |i+1=> by
  have ih:=Cf p vs i
  cases hv:vs[i]? with
  |none=>
   have e:eZ p vs (i+1)=eZ p vs i:=by rw[eZ,hv]
   have:vs.take (i+1)=vs.take i:=by rw[List.take_add_one,hv];simp
   rw[e,this];exact ih
  |some v=>
   rw[cP hv,List.map_append,List.sum_append]
   by_cases hn:cF v.1=cF p.name
   ·have h4:=sR p (cF v.2)
    rw[cL]at h4
    rw[wM (b:=(eZ p vs i).1) (out:=(eZ p vs i).2) rfl hv hn]
    simp only[Ya,Yh,List.map_cons,List.map_nil,List.sum_cons,List.sum_nil,if_pos hn]
    omega
   ·rw[AX (b:=(eZ p vs i).1) (out:=(eZ p vs i).2) rfl hv hn];simp only;omega
theorem DF (fs:List FV) (f:Nat) (vs:List Val):(et fs f vs).length≤(vs.map (gv fs f)).sum:=by
 unfold et
 cases hp:fs[f]? with
 |none=> simp
 |some p=>
  have h:=Cf p vs vs.length
  rw[List.take_length]at h
  simp only
  have e:(fun v:Val=> if cF v.1=cF p.name then v.2.size+1 else 0)=gv fs f:=by funext v;rw[gv,hp]
  rwa [e]at h
theorem Cb {fs:List FV}{v:Val}:∀n,(∀j p,j<n→fs[j]? =some p→cF v.1≠cF p.name)→((List.range n).map fun f=> gv fs f v).sum=0
 | 0,_=> rfl
 |n+1,h=> by
  rw[List.range_succ,List.map_append,List.sum_append,Cb n fun j p hj=> h j p (aa)]
  simp only[List.map_cons,List.map_nil,List.sum_cons,List.sum_nil,gv]
  cases hp:fs[n]? with
  |none=> rfl
  |some p=> simp only;rw[if_neg (h n p (aa) hp)];all_goals rfl
theorem GQ {fs:List FV}(hd:(fs.map fun f=> cF f.name).Nodup) (v:Val):∀n,((List.range n).map fun f=> gv fs f v).sum≤v.2.size+1
 | 0=> an
 |n+1=> by
  have ih:=GQ hd v n
  rw[List.range_succ,List.map_append,List.sum_append]
  simp only[List.map_cons,List.map_nil,List.sum_cons,List.sum_nil,Nat.add_zero]
  by_cases hg:gv fs n v=0
  ·omega
  ·obtain⟨p,hp,hn⟩:∃p,fs[n]? =some p∧cF v.1=cF p.name:=by
    unfold gv at hg
    cases hp:fs[n]? with
    |none=> rw[hp]at hg;exact absurd rfl hg
    |some p=>
     rw[hp]at hg
     by_cases h:cF v.1=cF p.name
     ·exact⟨p,rfl,h⟩
     ·exact absurd (by simp only;rw[if_neg h]) hg
   have hz:=Cb (fs:=fs) (v:=v) n fun j q hj hq he=> by
    have h1:(fs.map fun f=> cF f.name)[j]? =some (cF v.1):=by rw[Xd,hq,he];all_goals rfl
    have h2:(fs.map fun f=> cF f.name)[n]? =some (cF v.1):=by rw[Xd,hp,hn];all_goals rfl
    have h3:=(Yk.1 h2).1
    have:=(List.getElem?_inj (aa) hd).1 (h1.trans h2.symm)
    omega
   have hb:gv fs n v≤v.2.size+1:=by rw[gv,hp];simp only;rw[if_pos hn];exact Nat.le_refl _
   omega
def tsz (ds:List Doc):Nat:=(ds.map fun d=> (d.2.map fun v=> v.2.size+1).sum).sum
theorem vQ (fs:List FV) (f:Nat):∀(ds:List Doc) (k:Nat),(fF fs f k ds).length=(ds.map fun d=> (et fs f d.2).length).sum
 | [],_=> rfl
 |d::ds,k=> by
  rw[fF,Ya,vQ fs f ds (k+1)]
  simp[nC]
theorem zC {fs:List FV}(hc:fI fs=true) (ds:List Doc):(eE fs ds).length≤tsz ds:=by
 have hd:=(px fs [] (by simp only[fI,Bool.and_eq_true]at hc;exact hc.2)).2
 have h1:(eE fs ds).length=((List.range fs.length).map fun f=> (ds.map fun d=> (et fs f d.2).length).sum).sum:=by
  rw[eE,List.length_flatMap]
  congr 1
  exact List.map_congr_left fun f _=> vQ fs f ds 0
 rw[h1,xM]
 refine sX fun d _=> ?_
 have h2:((List.range fs.length).map fun f=> (et fs f d.2).length).sum≤((List.range fs.length).map fun f=> (d.2.map (gv fs f)).sum).sum:=sX fun f _=> DF fs f d.2
 rw[xM]at h2
 exact Xi h2 (sX fun v _=> GQ hd v _)
theorem QC {xs:List Nat}{bl:List (Nat×List Nat)}(hb:∀x∈xs,x<256) (h:jQ 83 xs=some bl):∀q∈bl,(∀x∈q.2,x<256)∧q.2.length≤xs.length:=by
 obtain⟨i1,_,i3⟩:=Ah hb h
 have h1:=congrArg List.length i1
 rw[tV]at h1
 exact fun q hq=> ⟨(i3 q hq).2,by have:=qk hq;omega⟩
theorem oH.at6 {F:cG}{l:List (Nat×SV)}{bl:List (Nat×List Nat)}(h:oH F l bl) {i:Nat}(hi:i<bl.length):∃(p:Nat×SV) (q:Nat×List Nat),l[i]? =some p∧bl[i]? =some q∧Sl F p.2 eB q.2:=by
 obtain⟨p,hp⟩:∃p,l[i]? =some p:=⟨_,Yi (by rw[h.1];exact hi)⟩
 obtain⟨q,hq⟩:∃q,bl[i]? =some q:=⟨_,Yi hi⟩
 exact⟨p,q,hp,hq,(h.2 i p q hp hq).2⟩
theorem O5 {G:cK}{H:cG}{fv si sb:SV}{fs:List FV}{ids body:List Nat} [hg:Glb G H] [hf:Sl H fv eF fs] [hsi:Sl H si eB ids] [hsc:Sl H sb eB body] (hc:fI fs=true) (hn:ids.length≤100000000) (hm:body.length≤100000000) (hb:∀x∈ids,x<256) (hb2:∀x∈body,x<256):
 SC G Tryz.prog 109 [.agg [fv.val].toArray,si.val,sb.val] H (fun v H'=> (kJ fs ids body=none∧∃s':SV,v= .tuple #[s'.val, .bool false]∧H'=H)∨(∃(zs:List DG) (s':SV),kJ fs ids body=some (zs.map dgD)∧v= .tuple #[s'.val, .bool true]∧H'=Row s' eD (zs.map dgV)::Cl dgH zs::H)):=by
 obtain⟨hc1,hc2⟩:=il hc
 refine sWk Tryz.func109 Tryz.ntmps109 ?_
 refine gk (k:=bxx (k:=fun b3=>?_))
 refine go ?_
 refine c1_ rfl (iS (aa)) (k:=?_)
 rintro _ _ ⟨br,rfl,rfl⟩
 refine go ?_
 refine c2_ rfl (Jk (k:=0) (most:=4096) (Yl _) (aa) hb (ag)) (k:=?_)
 rintro _ _ hK
 rw[List.drop_zero]at hK
 rcases hK with⟨e,hr,rfl,rfl⟩|⟨l,m,s8,hr,rfl,rfl⟩
 all_goals try rw[Nat.zero_add]
 ·have hD:kJ fs ids body=none:=by rw[kJ,hr]
  refine e_ mv (k:=e_ exr (k:=e_ exr (k:=e_ asn (k:=e_ asn (k:=on_ (qn_ (ws_ (ws_ (wr_ (e_ mv (k:=?_)))))))))))
  refine e_ (cZ rfl) (k:=?_)
  refine gk (k:=ift (k:=go ?_))
  refine gk (k:=rt_ Tryz.results109 (k:=?_))
  exact⟨_,hsb, .inl ⟨hD,SV.nil,rfl,rfl⟩⟩
 obtain⟨g1,g2,g3,g4,g5⟩:=uL hb hr
 have hll:l.length≤4096:=by
  rw[eH]at hr
  split at hr
  ·cases hr
  ·rename_i n0 m0 hr0
   split at hr
   ·cases hr
   ·rename_i r0 m1 hr1
    obtain⟨hr2,_⟩:=(by simpa using hr:r0=l∧m0+m1=m)
    obtain⟨k1,_⟩:=jm hb hr0
    obtain⟨k2,_⟩:=oY _ _ _ _ _ (fun x hx=> hb x (Yp hx)) (Int.le_refl _) hr1
    rw[←hr2];omega
 refine e_ mv (k:=e_ exr (k:=e_ exr (k:=e_ asn (k:=e_ asn (k:=on_ (qn_ (ws_ (ws_ (wr_ (e_ mv (k:=?_)))))))))))
 refine e_ (cM rfl) (k:=?_)
 refine go ?_
 refine sg_ (cW (vs:= [_]) rfl (pO g1)) (k:=?_)
 rintro _ _ ⟨rfl,(⟨hml,rfl⟩|⟨hml,rfl⟩)⟩
 ·have hD:kJ fs ids body=none:=by rw[kJ,hr];simp only[];rw[if_pos (aa)]
  refine eg_ (cZ rfl) (k:=?_)
  refine gk (k:=ift (k:=gk (k:=rt_ Tryz.results109 (k:=?_))))
  exact⟨_,hsb, .inl ⟨hD,SV.nil,rfl,rfl⟩⟩
 have hD:kJ fs ids body=match ku fs l body with
  |none=> none
  |some (ds,c)=> if c<body.length then none else some ds:=by
  rw[kJ,hr];simp only[];rw[if_neg (aa)]
  all_goals (cases ku fs l body <;> rfl)
 refine eg_ (cM rfl) (k:=?_)
 refine gk (k:=eg (k:=go ?_))
 refine c1_ rfl (iS (xs:=body) (aa)) (k:=?_)
 rintro _ _ ⟨bq,rfl,rfl⟩
 refine e_ asn (k:=on_ (qn_ (ws_ (wr_ (e_ asn (k:=on_ (qn_ (ws_ (ws_ (wr_ (?_)))))))))))
 refine du (cJ.nilRow (e:=eD) (fe (f:=dgH) cJ.refl)) ?_
 rw[show Row SV.nil eD ([]:List (Int×SV))=Row SV.nil eD (([]:List DG).map dgV)from rfl]
 refine gk (k:=dt (Nat×SV×(List DG)×Nat) (fun y=> y.1≤l.length∧y.2.2.2≤body.length∧y.2.2.1.length=y.1∧ku fs l body=rK (y.2.2.1.map dgD) y.2.2.2 (ku fs (l.drop y.1) (body.drop y.2.2.2))) (fun y=> [(11,y.2.1.val),(40, .int .i64 ((y.1:Nat):Int))]) [(3,_),(8,_),(38,_),(39,_)] (fun y=> [Row y.2.1 eD (y.2.2.1.map dgV),Cl dgH y.2.2.1,Rd bq (body,y.2.2.2)]) (Row s8 eI l::Vr b3 [fv.val]::H) (fun y=> l.length - y.1) ((0,SV.nil, [],0)) (h0:=?_) (k:=?_))
 ·try dsimp only
  exact⟨Yl _,Yl _,rfl,by rw[List.drop_zero,List.drop_zero];exact(Cd _).symm⟩
 rintro⟨i,u,zs,a⟩ ⟨hi,ha,hzl,hI⟩
 try dsimp only[Yd,Ye]at*
 refine gk (k:=wi_ (k:=fun h1=>?_) (m:=fun h1=>?_))
 ·obtain⟨d,hdi⟩:∃d,l[i]? =some d:=⟨_,Yi (aa)⟩
  have hzm:(zs.map dgV).length=zs.length:=Yh ..
  rw[dF hdi,ku]at hI
  refine wk_ (qn_ (ws_ (wb_ (ws_ (wr_ (e_ ixa (k:=e_ lel (k:=e_ asn (k:=on_ (qn_ (ws_ (wr_ (e_ mv (k:=?_))))))))))))))
  refine e_ (bld [(0,_)]) (k:=alc (k:=fun b14=>?_))
  refine go ?_
  refine c2_ rfl (ye (most:=64) ha (aa) hb2 (ag)) (k:=?_)
  rintro _ _ (⟨e,hr2,rfl,rfl⟩|⟨n,m2,hr2,rfl,rfl⟩)
  ·rw[hr2]at hI
   refine e_ mv (k:=e_ exr (k:=e_ exr (k:=e_ asn (k:=e_ asn (k:=on_ (qn_ (ws_ (ws_ (wr_ (e_ mv (k:=?_)))))))))))
   refine e_ (cZ rfl) (k:=?_)
   refine gk (k:=ift (k:=go ?_))
   refine gk (k:=rt_ Tryz.results109 (k:=?_))
   exact⟨_,hsb, .inl ⟨by rw[hD,hI];all_goals rfl,SV.nil,rfl,rfl⟩⟩
  rw[hr2]at hI
  simp only[]at hI
  obtain⟨q1,q2,q3,q4⟩:=jm (fun x hx=> hb2 x (Yp hx)) hr2
  rw[Yo]at q2
  rw[List.drop_drop]at hI
  refine e_ mv (k:=e_ exr (k:=e_ exr (k:=e_ asn (k:=e_ asn (k:=on_ (qn_ (ws_ (ws_ (wr_ (e_ mv (k:=?_)))))))))))
  refine e_ (cM rfl) (k:=?_)
  refine gk (k:=eg (k:=go ?_))
  refine gk (k:=dt (SV×(List Val)×Nat×Nat) (fun y=> y.2.2.2=y.2.1.length∧y.2.2.1≤body.length∧a+m2≤y.2.2.1∧y.2.1.length≤n∧ll fs n (body.drop (a+m2))=rK y.2.1 (y.2.2.1 - (a+m2)) (ll fs (n - y.2.1.length) (body.drop y.2.2.1))) (fun y=> [(54, .int .i64 ((y.2.2.2:Nat):Int))]) [(3,_),(8,_),(11,_),(14,_),(38,_),(39,_),(40,_),(53,_)] (fun y=> [Vr b14 [.int .i64 d,y.1.val],Row y.1 eVl y.2.1,Rd bq (body,y.2.2.1)]) (Row u eD (zs.map dgV)::Cl dgH zs::Row s8 eI l::Vr b3 [fv.val]::H) (fun y=> n - y.2.1.length) ((SV.nil, [],a+m2,0)) (h0:=?_) (k:=?_))
  ·try dsimp only
   exact⟨rfl,aa,Nat.le_refl _,Yl _,by rw[Nat.sub_self,Yc,Nat.sub_zero];exact(Cd _).symm⟩
  rintro⟨sv,vs,e,j⟩ ⟨hjv,he,hae,hvl,hV⟩
  try dsimp only[Yd,Ye]at*
  refine gk (k:=wi_ (k:=fun h2=>?_) (m:=fun h2=>?_))
  ·obtain⟨k,hk⟩:∃k,n - vs.length=k+1:=⟨n - vs.length - 1,aa⟩
   rw[hk,ll]at hV
   refine wk_ (qn_ (ws_ (wb_ (ws_ (wr_ (e_ mv (k:=e_ fla (k:=e_ ldv (k:=e_ lnn (k:=?_))))))))))
   refine e_ (evq isb (congrArg (Value.int .i64) (by omega:((fs.length:Nat):Int) - 1=((fs.length - 1:Nat):Int)))) (k:=?_)
   refine c2_ rfl (ye (most:=fs.length - 1) he (aa) hb2 (aa)) (k:=?_)
   rintro _ _ (⟨e9,hr3,rfl,rfl⟩|⟨f,m3,hr3,rfl,rfl⟩)
   ·rw[hr3]at hV
    simp only[]at hV
    refine e_ mv (k:=e_ exr (k:=e_ exr (k:=e_ asn (k:=e_ asn (k:=on_ (qn_ (ws_ (ws_ (wr_ (e_ mv (k:=?_)))))))))))
    refine e_ (cZ rfl) (k:=?_)
    refine gk (k:=ift (k:=go ?_))
    refine gk (k:=rt_ Tryz.results109 (k:=?_))
    exact⟨_,hsb, .inl ⟨by rw[hD,hI,hV];all_goals rfl,SV.nil,rfl,rfl⟩⟩
   rw[hr3]at hV
   simp only[]at hV
   obtain⟨p1,p2,p3,p4⟩:=jm (fun x hx=> hb2 x (Yp hx)) hr3
   rw[Yo]at p2
   rw[List.drop_drop]at hV
   refine e_ mv (k:=e_ exr (k:=e_ exr (k:=e_ asn (k:=e_ asn (k:=on_ (qn_ (ws_ (ws_ (wr_ (e_ mv (k:=?_)))))))))))
   refine e_ (cM rfl) (k:=?_)
   refine gk (k:=eg (k:=go ?_))
   refine c2_ rfl (L0 (most:=4096) (aa) (aa) hb2 (ag)) (k:=?_)
   rintro _ _ (⟨e9,hr4,rfl,rfl⟩|⟨q,m4,hr4,rfl,rfl⟩)
   ·rw[hr4]at hV
    simp only[]at hV
    refine e_ mv (k:=e_ exr (k:=e_ exr (k:=e_ asn (k:=e_ asn (k:=on_ (qn_ (ws_ (ws_ (wr_ (e_ mv (k:=?_)))))))))))
    refine e_ (cZ rfl) (k:=?_)
    refine gk (k:=ift (k:=go ?_))
    refine gk (k:=rt_ Tryz.results109 (k:=?_))
    exact⟨_,hsb, .inl ⟨by rw[hD,hI,hV];all_goals rfl,SV.nil,rfl,rfl⟩⟩
   rw[hr4]at hV
   simp only[]at hV
   obtain⟨r1,r2,r3,r4⟩:=D7 (fun x hx=> hb2 x (Yp hx)) hr4
   rw[Yo]at r1
   obtain⟨fp,hfp⟩:∃fp,fs[f]? =some fp:=⟨_,Yi (aa)⟩
   rw[List.drop_drop,hfp]at hV
   refine e_ mv (k:=e_ exr (k:=e_ exr (k:=e_ asn (k:=e_ asn (k:=on_ (qn_ (ws_ (ws_ (wr_ (e_ mv (k:=?_)))))))))))
   refine e_ (cM rfl) (k:=?_)
   refine gk (k:=eg (k:=go ?_))
   refine df cI (fun i=> [10,11,13].contains i) (fun k H=> (k=1→cQ H b14 [.int .i64 d,sv.val])∧(k=3→cQ H b3 [fv.val])∧(k=5→Sl H fv eF fs)∧(k=6→Sl H fv eF fs)∧(k=7→Sl H fv eF fs)) (af_ 0 (q:=cD fun H hH=>fla) (k:=?_))
   refine cE 1 rfl rfl (a8) rfl (cD fun H hH=>ak) (?_)
   refine af_ 2 (q:=cD fun H hH=>fla) (k:=?_)
   refine cE 3 rfl rfl (a8) rfl (cD fun H hH=>ar) (?_)
   refine af_ 4 (q:=cD fun H hH=>mv) (k:=?_)
   refine cE 5 rfl rfl (a8) rfl (cD fun H hH=>aV) (?_)
   refine cE 6 rfl rfl (a8) rfl (cD fun H hH=>by have hN:=hH.2.2.2.1 rfl;exact fle) (?_)
   refine cE 7 rfl rfl (a8) rfl (cD fun H hH=>by have hN:=hH.2.2.2.2 rfl;exact lfl) (?_)
   refine af_ 8 (q:=cD fun H hH=>mv) (k:=af_ 9 (q:=cD fun H hH=>bld [(0,_),(1,_)]) (k:=?_))
   refine cN 10 rfl (a8) rfl (fun k hk=> ⟨fun hi=> ab,fun hi=> ab,fun hi=> ab,fun hi=> ab,fun hi=> ab⟩) (ew eVl rfl rfl) ?_
   rintro _ _ ⟨s84,rfl,rfl⟩
   refine cN 11 rfl (a8) rfl (fun k hk=> ⟨fun hi=> ab,fun hi=> ab,fun hi=> ab,fun hi=> ab,fun hi=> ab⟩) (eY rfl rfl rfl rfl (af) (af)) ?_
   rintro _ _ ⟨s85,rfl,rfl⟩
   refine af_ 12 (q:=cD fun H hH=>fla) (k:=?_)
   refine cN 13 rfl (a8) rfl (fun k hk=> ⟨fun hi=> absurd hk (ad),fun hi=> ab,fun hi=> ab,fun hi=> ab,fun hi=> ab⟩) (dM rfl rfl rfl) ?_
   rintro _ _ ⟨rfl,rfl⟩
   refine db (a8) (fun k hk=> ⟨fun hi=> absurd hk (ad),fun hi=> absurd hk (ad),fun hi=> absurd hk (ad),fun hi=> absurd hk (ad),fun hi=> absurd hk (ad)⟩) (go ?_)
   refine ln_ ((s85,vs++ [(fp.name,dL q)],e+m3+m4,j+1)) (h2:=?_) (k:=?_)
   ·try dsimp only
    simp;omega
   try dsimp only
   refine⟨aM,aa,aa,aM,?_⟩
   rw[hV,show n - (vs++ [(fp.name,dL q)]).length=k from aM,show e+m3+m4 - (a+m2)=e - (a+m2)+(m3+m4)from aa,Nat.add_assoc e m3 m4]
   cases ll fs k (body.drop (e+(m3+m4)))with
   |none=> rfl
   |some p=> simp only[rK,Yf,Yd,Ye,Option.map_some,Option.getD_some,Nat.add_assoc]
  have hkn:n - vs.length=0:=aa
  rw[hkn,ll]at hV
  have hV2:ll fs n (body.drop (a+m2))=some (vs,e - (a+m2)):=by rw[hV];simp[rK]
  rw[hV2]at hI
  simp only[]at hI
  refine gk (k:=gz eD (k:=fun s90=>?_))
  refine app (k:=fun s91=>?_)
  rw[show zs.map dgV++ [(d,sv)]=(zs++ [(⟨d,sv,vs⟩:DG)]).map dgV from by simp[dgV]]
  refine du (cJ.trans (H':=Row sv eVl vs::Cl dgH zs::Row s91 eD ((zs++ [(⟨d,sv,vs⟩:DG)]).map dgV)::Rd bq (body,e)::Row s8 eI l::Vr b3 [fv.val]::H) (hsb) (Cr ⟨d,sv,vs⟩)) ?_
  refine go ?_
  refine ln_ ((i+1,s91,zs++ [⟨d,sv,vs⟩],e)) (k:=?_)
  try dsimp only
  refine⟨aa,he,aM,?_⟩
  rw[hI,show(zs++ [(⟨d,sv,vs⟩:DG)]).map dgD=zs.map dgD++ [(d,vs)]from by simp[dgD],List.drop_drop,show m2+(e - (a+m2))=e - a from aa,show a+(e - a)=e from aa]
  cases ku fs (l.drop (i+1)) (body.drop e)with
  |none=> rfl
  |some p=> simp only[rK,Yf,Yd,Ye,Option.some.injEq,Prod.mk.injEq,true_and];omega
 have hii:i=l.length:=aa
 rw[hii,List.drop_length,ku]at hI
 have hD2:kJ fs ids body=if a<body.length then none else some (zs.map dgD):=by rw[hD,hI];simp[rK]
 refine go ?_
 refine df cI (fun i=> [4].contains i) (fun _ _=> True) (af_ 0 (q:=cD fun H hH=>mv) (k:=af_ 1 (q:=cD fun H hH=>mv) (k:=af_ 2 (q:=cD fun H hH=>nck) (k:=af_ 3 (q:=cD fun H hH=>fla) (k:=?_)))))
 refine cN 4 rfl (a8) rfl (fun _ _=> trivial) (cW (vs:= [_]) rfl (pO ha)) ?_
 rintro v _ ⟨rfl,hK⟩
 refine qv (fun _=> trivial) (?_)
 refine cE 5 rfl rfl (a8) rfl (dz ((show Ev G _ _ _ _ (.bool (decide (a=body.length)))from by
  rcases hK with⟨hal,rfl⟩|⟨hal,rfl⟩
  ·exact evq (kI rfl) (congrArg Value.bool (Yr (aa)).symm)
  ·exact evq (fy rfl) (congrArg Value.bool (Ys (aa)).symm)))) (?_)
 refine as_ 6 (q:=asn) (k:=as_ 7 (q:=asn) (k:=az_ (k:=gk (k:=rt_ Tryz.results109 (k:=?_)))))
 by_cases hal:a<body.length
 ·rw[if_pos hal]at hD2
  exact⟨_,hsb, .inl ⟨hD2,u,by rw[show decide (a=body.length)=false from Yr (aa)];all_goals rfl,rfl⟩⟩
 ·rw[if_neg hal]at hD2
  exact⟨_,hsb, .inr ⟨zs,u,hD2,by rw[show decide (a=body.length)=true from Ys (aa)];all_goals rfl,rfl⟩⟩
theorem JM {kind:Nat}{bl:List (Nat×List Nat)}(hk:kind<256) (h:∀q∈bl,q.1<256∧∀x∈q.2,x<256):∀x∈kT kind bl,x<256:=fun x hx=> by
 rcases List.mem_append.1 hx with hx|hx
 ·exact wI hk h x hx
 ·exact Ej _ x hx
end Go.Sx
