import Derived.Test.YtefgpomabdplbaaGreatDoorQ28
import Derived.Laws.StructEq
set_option linter.unusedVariables false
set_option linter.unusedSimpArgs false
set_option linter.unusedSectionVars false
set_option linter.unnecessarySimpa false
set_option maxHeartbeats 0
namespace Go.Sx
open Go Go.Proofs
set_option maxRecDepth 100000
def l7 (fs:List FV):Int→List Doc→Nat
 |_, []=> 0
 |la,d::r=> if d.1<0∨1099511627776≤d.1 then 8 else if d.1≤la then 4 else if gy fs d.2=0 then l7 fs d.1 r else gy fs d.2
def oF (fs:List FV) (ds:List Doc):Nat:=if fI fs=false then 11 else if 4096<ds.length then 3 else l7 fs (-1) ds
theorem zn {fs:List FV}:∀{ds:List Doc}{la:Int},l7 fs la ds=0→(∀d∈ds,0≤d.1∧d.1<1099511627776∧gy fs d.2=0)∧(∀d,ds.head? =some d→la<d.1)∧rise (ds.map (·.1))=true
 | [],_,_=> ⟨an,an,rfl⟩
 |d::r,la,h=> by
  rw[l7]at h
  split at h
  ·cases h
  ·split at h
   ·cases h
   ·split at h
    ·rename_i h1 h2 h3
     obtain⟨i1,i2,i3⟩:=zn h
     refine⟨fun e he=> ?_,fun e he=> by simp at he;subst he;omega,?_⟩
     ·rcases List.mem_cons.1 he with rfl|he
      ·exact⟨aa,aa,h3⟩
      ·exact i1 e he
     ·rw[List.map_cons,lK]
      refine⟨fun y hy=> ?_,i3⟩
      rw[List.head?_map]at hy
      cases hr:r.head? with
      |none=> rw[hr]at hy;cases hy
      |some e=> rw[hr]at hy;obtain rfl:=Option.some.inj hy;exact i2 e hr
    ·rename_i h3;exact absurd h h3
theorem mZ {fs:List FV}{ds:List Doc}(h:oF fs ds=0) (hz:dsz ds≤30000000) (ht:(eE fs ds).length≤2000000):jF fs ds:=by
 rw[oF]at h
 split at h
 ·cases h
 ·split at h
  ·cases h
  ·rename_i h1 h2
   obtain⟨i1,i2,i3⟩:=zn h
   refine⟨by simpa using h1,aa,?_,i3,fun d hd=> (i1 d hd).2.1,fun d hd=> (i1 d hd).2.2,hz,ht⟩
   rw[kf]
   intro i x hx
   rw[Xd]at hx
   cases hd:ds[i]? with
   |none=> rw[hd]at hx;cases hx
   |some d=> rw[hd]at hx;obtain rfl:=Option.some.inj hx;exact(i1 d (Yj hd)).1
theorem LZ {G:cK}{H:cG}{s vv:SV}{fs:List FV}{vs:List Val} [hg:Glb G H] [hf:Sl H s eF fs] [hv:Sl H vv eVl vs] (hn:fs.length≤1000000) (hfn:∀f∈fs,f.name.size≤1000000000) (hvn:vs.length≤1000000000) (hq:∀v∈vs,v.2.size≤1000000000):SC G Tryz.prog 105 [.agg [s.val].toArray,vv.val] H (fun v H'=> H'=H∧((gy fs vs=0∧v= .nilIface)∨(gy fs vs≠0∧∃k,k<24∧v=G.err k))):=
 (O1 hn hfn hvn hq).mono fun v H' ⟨h1,h2⟩=> ⟨h2,by
   subst h1
   by_cases h:gy fs vs=0
   ·exact .inl ⟨h,by rw[h];all_goals rfl⟩
   ·refine .inr ⟨h,?_⟩
    unfold P0
    rw[if_neg h]
    split
    ·exact⟨0,ag,rfl⟩
    ·split
     ·exact⟨4,ag,rfl⟩
     ·split
      ·exact⟨11,ag,rfl⟩
      ·exact⟨12,ag,rfl⟩⟩
theorem F7 {G:cK}{H:cG}{fv dv:SV}{fs:List FV}{l:List (Int×SV)}{ds:List Doc} [hg:Glb G H] [Tab H 27 lg] [Tab H 25 jP] [hf:Sl H fv eF fs] [hd:Sl H dv eD l] [Spc H] (hT:gU G) (hS:lz) (hdi:ga H l ds) (hfl:fs.length≤1000000) (hfn:∀f∈fs,f.name.size≤1000000000) (hn:ds.length≤1000000000) (hq:∀d∈ds,d.2.length≤1000000000∧∀v∈d.2,v.2.size≤1000000000) (hz:dsz ds≤30000000) (ht:(eE fs ds).length≤2000000):
 SC G Tryz.prog 51 [.agg [fv.val].toArray,dv.val] H (fun v H'=> (oF fs ds=0∧∃s:SV,v= .tuple #[s.val, .nilIface]∧H'=Row s eB (y7 fs ds)::H)∨(oF fs ds≠0∧∃k,k<24∧v= .tuple #[.slice none 0 0,G.err k]∧H'=H)):=by
 have hll:=hdi.1
 refine sWk Tryz.func51 Tryz.ntmps51 ?_
 refine gk (k:=bxx (k:=fun b2=>?_))
 refine go ?_
 refine c1_ rfl (wq (fs:=fs) (aa) (fun f hf=> by have:=hfn f hf;omega)) (k:=?_)
 rintro _ _ ⟨rfl,(⟨hc,rfl⟩|⟨hc,rfl⟩)⟩
 ·refine e_ asn (k:=on_ (qn_ (ws_ (wr_ (e_ mv (k:=?_))))))
  refine e_ (cZ rfl) (k:=?_)
  refine gk (k:=ift (k:=gk (k:=rt_ Tryz.results51 (k:=?_))))
  exact⟨_,hsb, .inr ⟨by rw[oF,if_pos hc];decide,0,ag,rfl,rfl⟩⟩
 refine e_ asn (k:=on_ (qn_ (ws_ (wr_ (e_ mv (k:=?_))))))
 refine e_ (cM rfl) (k:=?_)
 refine gk (k:=eg (k:=gk (k:=wi_ (k:=fun h1=>?_) (m:=fun h1=>?_))))
 ·have hcd:oF fs ds=3:=by rw[oF,if_neg (by rw[hc];decide),if_pos (aa)]
  refine go ?_
  refine cX cI (as_ 0 (q:=ldv) (k:=as_ 1 (q:=asn) (k:=as_ 2 (q:=asn) (k:=az_ (k:=gk (k:=rt_ Tryz.results51 (k:=?_)))))))
  exact⟨_,hsb, .inr ⟨by rw[hcd];decide,4,ag,rfl,rfl⟩⟩
 have hcd:oF fs ds=l7 fs (-1) ds:=by rw[oF,if_neg (by rw[hc];decide),if_neg (aa)]
 refine go ?_
 refine gk (k:=dt (Nat×Int) (fun y=> y.1≤l.length∧l7 fs (-1) ds=l7 fs y.2 (ds.drop y.1)) (fun y=> [(7, .int .i64 y.2),(22, .int .i64 ((y.1:Nat):Int))]) [(1,_),(2,_),(20,_),(21,_)] (fun y=> []) _ (fun y=> l.length - y.1) ((0, -1)) (h0:=?_) (k:=?_))
 ·try dsimp only
  exact⟨Yl _,rfl⟩
 rintro⟨i,la⟩ ⟨hi,hck⟩
 try dsimp only[Yd,Ye]at*
 refine gk (k:=wi_ (k:=fun h2=>?_) (m:=fun h2=>?_))
 ·obtain⟨d,s,vs,hli,hdj,hsl⟩:=hdi.get (i:=i) (aa)
  obtain⟨hq1,hq2⟩:=hq _ (Yj hdj)
  rw[dF hdj,l7]at hck
  simp only at hq1 hq2 hck
  refine gk (k:=alc (k:=fun b9=>?_))
  refine gk (k:=dN 4 34 (k:=fun h3=>gk (k:=edq)) (q:=go ?_))
  refine gk (k:=wi_ (k:=fun h4=>?_) (m:=fun h4=>?_))
  ·rw[if_pos (aa)]at hck
   refine go ?_
   refine cX cI (as_ 0 (q:=ldv) (k:=as_ 1 (q:=asn) (k:=as_ 2 (q:=asn) (k:=az_ (k:=go ?_)))))
   refine rt_ Tryz.results51 (k:=?_)
   exact⟨_,hsb, .inr ⟨by rw[hcd,hck];decide,1,ag,rfl,rfl⟩⟩
  rw[if_neg (aa)]at hck
  refine gk (k:=wi_ (k:=fun h5=>?_) (m:=fun h5=>?_))
  ·rw[if_pos (aa)]at hck
   refine go ?_
   refine cX cI (as_ 0 (q:=ldv) (k:=as_ 1 (q:=asn) (k:=as_ 2 (q:=asn) (k:=az_ (k:=go ?_)))))
   refine rt_ Tryz.results51 (k:=?_)
   exact⟨_,hsb, .inr ⟨by rw[hcd,hck];decide,5,ag,rfl,rfl⟩⟩
  rw[if_neg (aa)]at hck
  refine go ?_
  refine go ?_
  refine c2_ rfl (LZ hfl hfn hq1 hq2) (k:=?_)
  rintro _ _ ⟨rfl,(⟨hgl,rfl⟩|⟨hgl,k,hk,rfl⟩)⟩
  ·rw[if_pos hgl]at hck
   refine e_ asn (k:=on_ (qn_ (ws_ (wr_ (e_ mv (k:=?_))))))
   refine e_ (cM rfl) (k:=?_)
   refine gk (k:=eg (k:=go ?_))
   refine ln_ ((i+1,d)) (k:=?_)
   try dsimp only
   exact⟨aa,hck⟩
  rw[if_neg hgl]at hck
  refine e_ asn (k:=on_ (qn_ (ws_ (wr_ (e_ mv (k:=?_))))))
  refine e_ (cZ rfl) (k:=?_)
  refine gk (k:=ift (k:=go ?_))
  refine gk (k:=rt_ Tryz.results51 (k:=?_))
  exact⟨_,hsb, .inr ⟨by rw[hcd,hck];exact hgl,k,hk,rfl,rfl⟩⟩
 obtain rfl:i=l.length:=aa
 rw[hll,List.drop_length]at hck
 have hok:=mZ (hcd.trans hck) hz ht
 have hsz:=hok.size
 have hfew:=hok.few
 refine go ?_
 refine c2_ rfl (BE (ds:=ds) hT (hdi.less (hsb)) hok.flen (aa) hok.q hsz) (k:=?_)
 rintro _ _ ⟨g,lv,r,zs,rfl,hzs,rfl⟩
 refine c1_ rfl (LW (r:=r) (l:=l) (zs:=zs) (fs:=fs) (ds:=ds) hS hok (hdi.less (hsb)) hzs) (k:=?_)
 rintro _ _ ⟨s55,rfl,rfl⟩
 refine gk (k:=rt_ Tryz.results51 (k:=?_))
 exact⟨_,hsb, .inl ⟨hcd.trans hck,s55,rfl,rfl⟩⟩
abbrev uP:=ByteArray×Nat×Nat
def ltS (a b:uP):Prop:=cF a.1<cF b.1∨cF a.1=cF b.1∧(a.2.1<b.2.1∨a.2.1=b.2.1∧a.2.2<b.2.2)
def leS (a b:uP):Prop:=¬ltS b a
theorem Ga {a b c:uP}(h:ltS a b) (h':ltS b c):ltS a c:=by
 rcases h with h|⟨h1,h2⟩
 ·rcases h' with h'|⟨h3,_⟩
  ·exact .inl (G9 h h')
  ·exact .inl (h3 ▸ h)
 ·rcases h' with h'|⟨h3,h4⟩
  ·exact .inl (h1 ▸ h')
  ·exact .inr ⟨h1.trans h3,by rcases h2 with h2|h2 <;> rcases h4 with h4|h4 <;> omega⟩
theorem Gb {a b:uP}(h:ltS a b):leS a b:=fun h'=> by
 have h9:=Ga h h'
 rcases h9 with h9|⟨_,h9⟩
 ·exact pb _ h9
 ·omega
theorem Gj {a b c:uP}(h:leS a b) (h':leS b c):leS a c:=fun hca=> by
 by_cases hab:ltS a b
 ·exact h' (Ga hca hab)
 ·
  have e:cF a.1=cF b.1:=by
   by_cases e:cF a.1=cF b.1
   ·exact e
   ·by_cases l:cF a.1<cF b.1
    ·exact absurd (.inl l) hab
    ·exact absurd (.inl (wD l e)) h
  have e2:a.2=b.2:=by
   have h1:¬(a.2.1<b.2.1∨a.2.1=b.2.1∧a.2.2<b.2.2):=fun hh=> hab (.inr ⟨e,hh⟩)
   have h2:¬(b.2.1<a.2.1∨b.2.1=a.2.1∧b.2.2<a.2.2):=fun hh=> h (.inr ⟨e.symm,hh⟩)
   exact Prod.ext (aa) (aa)
  have e3:a=b:=Prod.ext (kM.1 e) e2
  rw[e3]at hca
  exact h' hca
structure E7 (l out av bv:List uP):Prop where
 perm:(out++(av++bv)).Perm l
 up:out.Pairwise leS
 low:∀x∈out,∀y∈av++bv,leS x y
 ua:av.Pairwise leS
 ub:bv.Pairwise leS
theorem E7.left {l out av bv:List uP}{a:uP}(h:E7 l out (a::av) bv) (hb:∀b,bv.head? =some b→ltS a b):E7 l (out++ [a]) av bv:=by
 obtain⟨h1,h2⟩:=List.pairwise_cons.1 h.ua
 have hab:∀y∈bv,leS a y:=by
  intro y hy
  cases bv with
  |nil=> simp at hy
  |cons b bv=>
   have h3:=Gb (hb b rfl)
   rcases List.mem_cons.1 hy with rfl|hy
   ·exact h3
   ·exact Gj h3 ((List.pairwise_cons.1 h.ub).1 y hy)
 refine⟨by simpa using h.perm,List.pairwise_append.2 ⟨h.up,List.pairwise_singleton ..,fun x hx y hy=> ?_⟩,fun x hx y hy=> ?_,h2,h.ub⟩
 ·simp at hy;subst hy;exact h.low x hx y (an)
 ·rcases List.mem_append.1 hx with hx|hx
  ·exact h.low x hx y (by rcases List.mem_append.1 hy with hy|hy <;> simp[hy])
  ·simp at hx;subst hx
   rcases List.mem_append.1 hy with hy|hy
   ·exact h1 y hy
   ·exact hab y hy
theorem E7.right {l out av bv:List uP}{b:uP}(h:E7 l out av (b::bv)) (ha:∀a,av.head? =some a→leS b a):E7 l (out++ [b]) av bv:=by
 obtain⟨h1,h2⟩:=List.pairwise_cons.1 h.ub
 have hba:∀y∈av,leS b y:=by
  intro y hy
  cases av with
  |nil=> simp at hy
  |cons a av=>
   have h3:=ha a rfl
   rcases List.mem_cons.1 hy with rfl|hy
   ·exact h3
   ·exact Gj h3 ((List.pairwise_cons.1 h.ua).1 y hy)
 refine⟨?_,List.pairwise_append.2 ⟨h.up,List.pairwise_singleton ..,fun x hx y hy=> ?_⟩,fun x hx y hy=> ?_,h.ua,h2⟩
 ·refine List.Perm.trans ?_ h.perm
  rw[Yf]
  exact List.Perm.append_left _ (by simpa using (List.perm_middle (a:=b) (l₁:=av) (l₂:=bv)).symm)
 ·simp at hy;subst hy;exact h.low x hx y (an)
 ·rcases List.mem_append.1 hx with hx|hx
  ·exact h.low x hx y (by rcases List.mem_append.1 hy with hy|hy <;> simp[hy])
  ·simp at hx;subst hx
   rcases List.mem_append.1 hy with hy|hy
   ·exact hba y hy
   ·exact h1 y hy
theorem MP (ts:List Tri):Bk (dm ts) ts:=⟨by rw[tv];exact iz _,fun k=> by rw[tv,jk],fun e he=> by
 obtain⟨k,_,rfl⟩:=List.mem_map.1 he;rfl⟩
theorem qz.less {H H':cG}{l:List (Nat×SV)}{ps:List Po}(h:qz H l ps) (hs:cJ H' H):qz H' l ps:=⟨h.1,fun i p q hp hq=> by
 obtain⟨h1,h2⟩:=h.2 i p q hp hq
 exact⟨h1,dD hs h2⟩⟩
def Jz (e:Nat):Int:=([11,8,1,2,3,4,5,6,7,9,10,12,13,14,15,16,17,18,19,20,21,22,23,24]:List Int).getD e (-1)
theorem Kw {G:cK}{H:cG}{s s2:SV}{xs ys:List Nat} [Sl H s eB xs] [Sl H s2 eB ys] (hx:∀x∈xs,x<256) (hy:∀x∈ys,x<256):SC G Tryz.prog 110 [s.val,s2.val] H (fun v H'=> v= .bool (decide (xs=ys))∧H'=H):=by
 refine sWk Tryz.func110 Tryz.ntmps110 ?_
 refine ws_ (wr_ (e_ asn (k:=on_ (qn_ (ws_ (wr_ (e_ mv (k:=?_))))))))
 refine e_ (eN rfl) (k:=?_)
 refine e_ mv (k:=?_)
 refine e_ (eN rfl) (k:=?_)
 refine e_ (mQ rfl rfl) (k:=?_)
 refine gk (k:=rt_ Tryz.results110 (k:=?_))
 exact⟨_,cJ.refl,by rw[fa hx,fa hy];all_goals rfl,rfl⟩
class HY (G:cK):Prop where
 out:G.eT=386
theorem Ku:∃k,Tryz.prog.info? 386=some k∧k.comparable=true:=by
 have h:(Tryz.prog.info? 386).map (·.comparable)=some true:=a8
 cases hk:Tryz.prog.info? 386 with
 |none=> rw[hk]at h;cases h
 |some k=> rw[hk]at h;exact⟨k,rfl,aY⟩
section
variable {G:cK}{t:Tm}{H:cG}{dst:Option Tmp}{ty:TypeId}{pos:String}{after:Array Edge}{g:Option (Nat×Bool)}
theorem dG {T U:TypeId}{x y:Operand}{i j:Nat}{ms:Array (String×TypeId)} [he:HY G] [hT:Und Tryz.prog T (.interface ms)] [hg:Glb G H] [h1:iJ i] [h2:iJ j] (hx:evo t x=some (G.err i)) (hy:evo t y=some (G.err j)):Ev G Tryz.prog ⟨dst, .binOp .eql T x y U,ty,pos,after,g⟩ t H (.bool (decide (i=j))):=
 haveI:Und Tryz.prog G.eT (.pointer 413):=⟨by rw[he.out];exact Tryz.underlying386⟩
 B6 (by rw[he.out];exact Ku) (ag) hg.inj hx hy
end
def G7 (e:Nat):Int:=if 15≤e∧e<24 then Jz e else -1
theorem G6:∀e:Fin 24,(e.val≠2∧e.val≠3∧e.val≠4∧e.val≠5∧e.val≠6∧e.val≠7∧e.val≠8∧e.val≠1∧e.val≠9∧e.val≠10∧e.val≠0∧e.val≠11∧e.val≠12∧e.val≠13∧e.val≠14)→G7 e.val=Jz e.val:=ag
theorem JE {G:cK}{H:cG} [hg:Glb G H] [HY G] (e:Nat) [he:iJ e]:SC G Tryz.prog 30 [G.err e] H (fun v H'=> v= .int .i64 (G7 e)∧H'=H):=by
 refine sWk Tryz.func30 Tryz.ntmps30 ?_
 refine ws_ (wr_ (e_ asn (k:=on_ (qn_ (ws_ (ws_ (wr_ (e_ mv (k:=on_ (qn_ (wb_ (ws_ (wr_ (?_))))))))))))))
 refine e_ ldv (k:=?_)
 refine e_ (dG rfl rfl) (k:=?_)
 refine gk (k:=wi_ (k:=fun h1=>?_) (m:=fun h1=>?_))
 ·refine gk (k:=rt_ Tryz.results30 (k:=?_))
  exact⟨_,cJ.refl,aB,rfl⟩
 refine ws_ (wr_ (e_ ldv (k:=?_)))
 refine e_ (dG rfl rfl) (k:=?_)
 refine gk (k:=wi_ (k:=fun h2=>?_) (m:=fun h2=>?_))
 ·refine gk (k:=rt_ Tryz.results30 (k:=?_))
  exact⟨_,cJ.refl,aB,rfl⟩
 refine ws_ (wr_ (e_ ldv (k:=?_)))
 refine e_ (dG rfl rfl) (k:=?_)
 refine gk (k:=wi_ (k:=fun h3=>?_) (m:=fun h3=>?_))
 ·refine gk (k:=rt_ Tryz.results30 (k:=?_))
  exact⟨_,cJ.refl,aB,rfl⟩
 refine ws_ (wr_ (e_ ldv (k:=?_)))
 refine e_ (dG rfl rfl) (k:=?_)
 refine gk (k:=wi_ (k:=fun h4=>?_) (m:=fun h4=>?_))
 ·refine gk (k:=rt_ Tryz.results30 (k:=?_))
  exact⟨_,cJ.refl,aB,rfl⟩
 refine ws_ (wr_ (e_ ldv (k:=?_)))
 refine e_ (dG rfl rfl) (k:=?_)
 refine gk (k:=wi_ (k:=fun h5=>?_) (m:=fun h5=>?_))
 ·refine gk (k:=rt_ Tryz.results30 (k:=?_))
  exact⟨_,cJ.refl,aB,rfl⟩
 refine ws_ (wr_ (e_ ldv (k:=?_)))
 refine e_ (dG rfl rfl) (k:=?_)
 refine gk (k:=wi_ (k:=fun h6=>?_) (m:=fun h6=>?_))
 ·refine gk (k:=rt_ Tryz.results30 (k:=?_))
  exact⟨_,cJ.refl,aB,rfl⟩
 refine ws_ (wr_ (e_ ldv (k:=?_)))
 refine e_ (dG rfl rfl) (k:=?_)
 refine gk (k:=wi_ (k:=fun h7=>?_) (m:=fun h7=>?_))
 ·refine gk (k:=rt_ Tryz.results30 (k:=?_))
  exact⟨_,cJ.refl,aB,rfl⟩
 refine ws_ (wr_ (e_ ldv (k:=?_)))
 refine e_ (dG rfl rfl) (k:=?_)
 refine gk (k:=wi_ (k:=fun h8=>?_) (m:=fun h8=>?_))
 ·refine gk (k:=rt_ Tryz.results30 (k:=?_))
  exact⟨_,cJ.refl,aB,rfl⟩
 refine ws_ (wr_ (e_ ldv (k:=?_)))
 refine e_ (dG rfl rfl) (k:=?_)
 refine gk (k:=wi_ (k:=fun h9=>?_) (m:=fun h9=>?_))
 ·refine gk (k:=rt_ Tryz.results30 (k:=?_))
  exact⟨_,cJ.refl,aB,rfl⟩
 refine gk (k:=rt_ Tryz.results30 (k:=?_))
 exact⟨_,cJ.refl,by rw[G7,if_neg (by have:=he.out;omega)];all_goals rfl,rfl⟩
theorem Ar {G:cK}{H:cG} [hg:Glb G H] [HY G] (e:Nat) [he:iJ e]:SC G Tryz.prog 10 [G.err e] H (fun v H'=> v= .int .i64 (Jz e)∧H'=H):=by
 refine sWk Tryz.func10 Tryz.ntmps10 ?_
 refine ws_ (wr_ (e_ asn (k:=on_ (qn_ (ws_ (ws_ (wr_ (e_ mv (k:=on_ (qn_ (wb_ (ws_ (wr_ (?_))))))))))))))
 refine e_ (kI rfl) (k:=?_)
 refine gk (k:=ir_ (k:=fun h1=>?_) (m:=fun h1=>?_))
 ·cases h1
 refine ws_ (wr_ (e_ ldv (k:=?_)))
 refine e_ (dG rfl rfl) (k:=?_)
 refine gk (k:=wi_ (k:=fun h2=>?_) (m:=fun h2=>?_))
 ·refine gk (k:=rt_ Tryz.results10 (k:=?_))
  exact⟨_,cJ.refl,aB,rfl⟩
 refine ws_ (wr_ (e_ ldv (k:=?_)))
 refine e_ (dG rfl rfl) (k:=?_)
 refine gk (k:=wi_ (k:=fun h3=>?_) (m:=fun h3=>?_))
 ·refine gk (k:=rt_ Tryz.results10 (k:=?_))
  exact⟨_,cJ.refl,aB,rfl⟩
 refine ws_ (wr_ (e_ ldv (k:=?_)))
 refine e_ (dG rfl rfl) (k:=?_)
 refine gk (k:=wi_ (k:=fun h4=>?_) (m:=fun h4=>?_))
 ·refine gk (k:=rt_ Tryz.results10 (k:=?_))
  exact⟨_,cJ.refl,aB,rfl⟩
 refine ws_ (wr_ (e_ ldv (k:=?_)))
 refine e_ (dG rfl rfl) (k:=?_)
 refine gk (k:=wi_ (k:=fun h5=>?_) (m:=fun h5=>?_))
 ·refine gk (k:=rt_ Tryz.results10 (k:=?_))
  exact⟨_,cJ.refl,aB,rfl⟩
 refine ws_ (wr_ (e_ ldv (k:=?_)))
 refine e_ (dG rfl rfl) (k:=?_)
 refine gk (k:=wi_ (k:=fun h6=>?_) (m:=fun h6=>?_))
 ·refine gk (k:=rt_ Tryz.results10 (k:=?_))
  exact⟨_,cJ.refl,aB,rfl⟩
 refine ws_ (wr_ (e_ ldv (k:=?_)))
 refine e_ (dG rfl rfl) (k:=?_)
 refine gk (k:=wi_ (k:=fun h7=>?_) (m:=fun h7=>?_))
 ·refine gk (k:=rt_ Tryz.results10 (k:=?_))
  exact⟨_,cJ.refl,aB,rfl⟩
 refine ws_ (wr_ (e_ ldv (k:=?_)))
 refine e_ (dG rfl rfl) (k:=?_)
 refine gk (k:=wi_ (k:=fun h8=>?_) (m:=fun h8=>?_))
 ·refine gk (k:=rt_ Tryz.results10 (k:=?_))
  exact⟨_,cJ.refl,aB,rfl⟩
 refine ws_ (wr_ (e_ ldv (k:=?_)))
 refine e_ (dG rfl rfl) (k:=?_)
 refine gk (k:=wi_ (k:=fun h9=>?_) (m:=fun h9=>?_))
 ·refine gk (k:=rt_ Tryz.results10 (k:=?_))
  exact⟨_,cJ.refl,aB,rfl⟩
 refine ws_ (wr_ (e_ ldv (k:=?_)))
 refine e_ (dG rfl rfl) (k:=?_)
 refine gk (k:=wi_ (k:=fun h10=>?_) (m:=fun h10=>?_))
 ·refine gk (k:=rt_ Tryz.results10 (k:=?_))
  exact⟨_,cJ.refl,aB,rfl⟩
 refine ws_ (wr_ (e_ ldv (k:=?_)))
 refine e_ (dG rfl rfl) (k:=?_)
 refine gk (k:=wi_ (k:=fun h11=>?_) (m:=fun h11=>?_))
 ·refine gk (k:=rt_ Tryz.results10 (k:=?_))
  exact⟨_,cJ.refl,aB,rfl⟩
 refine ws_ (wr_ (e_ ldv (k:=?_)))
 refine e_ (dG rfl rfl) (k:=?_)
 refine gk (k:=wi_ (k:=fun h12=>?_) (m:=fun h12=>?_))
 ·refine gk (k:=rt_ Tryz.results10 (k:=?_))
  exact⟨_,cJ.refl,aB,rfl⟩
 refine ws_ (wr_ (e_ ldv (k:=?_)))
 refine e_ (dG rfl rfl) (k:=?_)
 refine gk (k:=wi_ (k:=fun h13=>?_) (m:=fun h13=>?_))
 ·refine gk (k:=rt_ Tryz.results10 (k:=?_))
  exact⟨_,cJ.refl,aB,rfl⟩
 refine ws_ (wr_ (e_ ldv (k:=?_)))
 refine e_ (dG rfl rfl) (k:=?_)
 refine gk (k:=wi_ (k:=fun h14=>?_) (m:=fun h14=>?_))
 ·refine gk (k:=rt_ Tryz.results10 (k:=?_))
  exact⟨_,cJ.refl,aB,rfl⟩
 refine ws_ (wr_ (e_ ldv (k:=?_)))
 refine e_ (dG rfl rfl) (k:=?_)
 refine gk (k:=wi_ (k:=fun h15=>?_) (m:=fun h15=>?_))
 ·refine gk (k:=rt_ Tryz.results10 (k:=?_))
  exact⟨_,cJ.refl,aB,rfl⟩
 refine ws_ (wr_ (e_ ldv (k:=?_)))
 refine e_ (dG rfl rfl) (k:=?_)
 refine gk (k:=wi_ (k:=fun h16=>?_) (m:=fun h16=>?_))
 ·refine gk (k:=rt_ Tryz.results10 (k:=?_))
  exact⟨_,cJ.refl,aB,rfl⟩
 refine go ?_
 refine d1_ rfl (JE e) (k:=gk (k:=rt_ Tryz.results10 (k:=?_)))
 exact⟨_,cJ.refl,by rw[G6 ⟨e,gok_lt he.out⟩ (bg)];all_goals rfl,rfl⟩
theorem uD.one {H:cG}{a b:SV}{x:List Nat}{y:List Int}(ha:Sl H a eB x) (hb:Sl H b eI y):uD H [(a,b)] [(x,y)]:=
 (uD.nil (F:=H)).snoc a b x y (fun _ _ h=> h) (fun _ _ h=> h) ha hb
theorem uD.ext {F F':cG}{l:List (SV×SV)}{ps:Pcs}(h:uD F l ps) (hF:∀(s:SV) (b:List Nat),Sl F s eB b→Sl F' s eB b) (hF2:∀(s:SV) (b:List Int),Sl F s eI b→Sl F' s eI b):uD F' l ps:=
 ⟨h.1,fun i p q hp hq=> ⟨hF _ _ (h.2 i p q hp hq).1,hF2 _ _ (h.2 i p q hp hq).2⟩⟩
def ll (fs:List FV):Nat→List Nat→Option (List Val×Nat)
 | 0,_=> some ([],0)
 |n+1,l=> match fG (fs.length - 1) l with
  | .error _=> none
  | .ok (f,m)=> match jK 4096 (l.drop m)with
   | .error _=> none
   | .ok (q,c)=> match ll fs n (l.drop (m+c))with
        |none=> none
        |some (r,e)=> some ((((fs[f]?).map (·.name)).getD ByteArray.empty,dL q)::r,m+c+e)
def ku (fs:List FV):List Int→List Nat→Option (List Doc×Nat)
 | [],_=> some ([],0)
 |d::r,l=> match fG 64 l with
  | .error _=> none
  | .ok (n,m)=> match ll fs n (l.drop m)with
   |none=> none
   |some (vs,c)=> match ku fs r (l.drop (m+c))with
        |none=> none
        |some (ds,e)=> some ((d,vs)::ds,m+c+e)
def kJ (fs:List FV) (ids body:List Nat):Option (List Doc):=match eH 4096 ids with
 | .error _=> none
 | .ok (l,m)=> if m<ids.length then none else match ku fs l body with
  |none=> none
  |some (ds,c)=> if c<body.length then none else some ds
def rK {α:Type}(zs:List α) (a:Nat):Option (List α×Nat)→Option (List α×Nat)
 |none=> none
 |some (r,e)=> some (zs++r,a+e)
theorem Cd {α:Type}(o:Option (List α×Nat)):rK [] 0 o=o:=by
 cases o with
 |none=> rfl
 |some p=> simp[rK]
structure DG where
 d:Int
 s:SV
 vs:List Val
def dgV (z:DG):Int×SV:=(z.d,z.s)
def dgD (z:DG):Doc:=(z.d,z.vs)
def dgH (z:DG):cG:= [Row z.s eVl z.vs]
theorem Cr {l:List DG}(z:DG) {H:cG}:cJ (Row z.s eVl z.vs::Cl dgH l::H) (Cl dgH (l++ [z])::H):=mX (f:=dgH) z
theorem Cs {H R:cG}{zs:List DG}(hr:nd H (Cl dgH zs) R):ga H (zs.map dgV) (zs.map dgD):=by
 refine⟨an,fun i p q hp hq=> ?_⟩
 rw[Xd]at hp hq
 cases hi:zs[i]? with
 |none=> rw[hi]at hp;cases hp
 |some z=>
  rw[hi]at hp hq
  obtain rfl:=Option.some.inj hp
  obtain rfl:=Option.some.inj hq
  exact⟨rfl,show Sl H z.s eVl z.vs from dD (fm hr (mY (f:=dgH) hi)) (inferInstanceAs (Sl (Row z.s eVl z.vs::_) z.s eVl z.vs))⟩
theorem xM {α β:Type}(l:List α) (m:List β) (g:α→β→Nat):(l.map fun a=> (m.map (g a)).sum).sum=(m.map fun b=> (l.map fun a=> g a b).sum).sum:=by
 induction l with
 |nil=> simp only[List.map_nil,List.sum_nil];induction m with
  |nil=> rfl
  |cons b m ih=> simp only[List.map_cons,List.sum_cons,Nat.zero_add];exact ih
 |cons a l ih=>
  simp only[List.map_cons,List.sum_cons,ih]
  clear ih
  induction m with
  |nil=> rfl
  |cons b m ih=> simp only[List.map_cons,List.sum_cons]at ih⊢;omega
theorem sX {α:Type}{l:List α}{f g:α→Nat}(h:∀x∈l,f x≤g x):(l.map f).sum≤(l.map g).sum:=by
 induction l with
 |nil=> exact Nat.le_refl _
 |cons a l ih=>
  have h1:=h a (an)
  have h2:=ih fun x hx=> h x (Xa _ hx)
  simp only[List.map_cons,List.sum_cons];omega
def gv (fs:List FV) (f:Nat) (v:Val):Nat:=match fs[f]? with
 |some p=> if cF v.1=cF p.name then v.2.size+1 else 0
 |none=> 0
theorem Cf (p:FV) (vs:List Val):∀i,(eZ p vs i).2.length≤((vs.take i).map fun v=> if cF v.1=cF p.name then v.2.size+1 else 0).sum
 | 0=> by simp[eZ]
 |i+1=> by
  have ih:=Cf p vs i
  cases hv:vs[i]? with
  |none=>
   have e:eZ p vs (i+1)=eZ p vs i:=by rw[eZ,hv]
   have:vs.take (i+1)=vs.take i:=by rw[List.take_add_one,hv];simp
   rw[e,this];exact ih
  |some v=>
   rw[cP hv,List.map_append,List.sum_append]
   by_cases hn:cF v.1=cF p.name
   ·have h4:=sR p (cF v.2)
    rw[cL]at h4
    rw[wM (b:=(eZ p vs i).1) (out:=(eZ p vs i).2) rfl hv hn]
    simp only[Ya,Yh,List.map_cons,List.map_nil,List.sum_cons,List.sum_nil,if_pos hn]
    omega
   ·rw[AX (b:=(eZ p vs i).1) (out:=(eZ p vs i).2) rfl hv hn];simp only;omega
theorem DF (fs:List FV) (f:Nat) (vs:List Val):(et fs f vs).length≤(vs.map (gv fs f)).sum:=by
 unfold et
 cases hp:fs[f]? with
 |none=> simp
 |some p=>
  have h:=Cf p vs vs.length
  rw[List.take_length]at h
  simp only
  have e:(fun v:Val=> if cF v.1=cF p.name then v.2.size+1 else 0)=gv fs f:=by funext v;rw[gv,hp]
  rwa [e]at h
theorem Cb {fs:List FV}{v:Val}:∀n,(∀j p,j<n→fs[j]? =some p→cF v.1≠cF p.name)→((List.range n).map fun f=> gv fs f v).sum=0
 | 0,_=> rfl
 |n+1,h=> by
  rw[List.range_succ,List.map_append,List.sum_append,Cb n fun j p hj=> h j p (aa)]
  simp only[List.map_cons,List.map_nil,List.sum_cons,List.sum_nil,gv]
  cases hp:fs[n]? with
  |none=> rfl
  |some p=> simp only;rw[if_neg (h n p (aa) hp)];all_goals rfl
theorem GQ {fs:List FV}(hd:(fs.map fun f=> cF f.name).Nodup) (v:Val):∀n,((List.range n).map fun f=> gv fs f v).sum≤v.2.size+1
 | 0=> an
 |n+1=> by
  have ih:=GQ hd v n
  rw[List.range_succ,List.map_append,List.sum_append]
  simp only[List.map_cons,List.map_nil,List.sum_cons,List.sum_nil,Nat.add_zero]
  by_cases hg:gv fs n v=0
  ·omega
  ·obtain⟨p,hp,hn⟩:∃p,fs[n]? =some p∧cF v.1=cF p.name:=by
    unfold gv at hg
    cases hp:fs[n]? with
    |none=> rw[hp]at hg;exact absurd rfl hg
    |some p=>
     rw[hp]at hg
     by_cases h:cF v.1=cF p.name
     ·exact⟨p,rfl,h⟩
     ·exact absurd (by simp only;rw[if_neg h]) hg
   have hz:=Cb (fs:=fs) (v:=v) n fun j q hj hq he=> by
    have h1:(fs.map fun f=> cF f.name)[j]? =some (cF v.1):=by rw[Xd,hq,he];all_goals rfl
    have h2:(fs.map fun f=> cF f.name)[n]? =some (cF v.1):=by rw[Xd,hp,hn];all_goals rfl
    have h3:=(Yk.1 h2).1
    have:=(List.getElem?_inj (aa) hd).1 (h1.trans h2.symm)
    omega
   have hb:gv fs n v≤v.2.size+1:=by rw[gv,hp];simp only;rw[if_pos hn];exact Nat.le_refl _
   omega
def tsz (ds:List Doc):Nat:=(ds.map fun d=> (d.2.map fun v=> v.2.size+1).sum).sum
theorem vQ (fs:List FV) (f:Nat):∀(ds:List Doc) (k:Nat),(fF fs f k ds).length=(ds.map fun d=> (et fs f d.2).length).sum
 | [],_=> rfl
 |d::ds,k=> by
  rw[fF,Ya,vQ fs f ds (k+1)]
  simp[nC]
theorem zC {fs:List FV}(hc:fI fs=true) (ds:List Doc):(eE fs ds).length≤tsz ds:=by
 have hd:=(px fs [] (by simp only[fI,Bool.and_eq_true]at hc;exact hc.2)).2
 have h1:(eE fs ds).length=((List.range fs.length).map fun f=> (ds.map fun d=> (et fs f d.2).length).sum).sum:=by
  rw[eE,List.length_flatMap]
  congr 1
  exact List.map_congr_left fun f _=> vQ fs f ds 0
 rw[h1,xM]
 refine sX fun d _=> ?_
 have h2:((List.range fs.length).map fun f=> (et fs f d.2).length).sum≤((List.range fs.length).map fun f=> (d.2.map (gv fs f)).sum).sum:=sX fun f _=> DF fs f d.2
 rw[xM]at h2
 exact Xi h2 (sX fun v _=> GQ hd v _)
theorem QC {xs:List Nat}{bl:List (Nat×List Nat)}(hb:∀x∈xs,x<256) (h:jQ 83 xs=some bl):∀q∈bl,(∀x∈q.2,x<256)∧q.2.length≤xs.length:=by
 obtain⟨i1,_,i3⟩:=Ah hb h
 have h1:=congrArg List.length i1
 rw[tV]at h1
 exact fun q hq=> ⟨(i3 q hq).2,by have:=qk hq;omega⟩
theorem oH.at6 {F:cG}{l:List (Nat×SV)}{bl:List (Nat×List Nat)}(h:oH F l bl) {i:Nat}(hi:i<bl.length):∃(p:Nat×SV) (q:Nat×List Nat),l[i]? =some p∧bl[i]? =some q∧Sl F p.2 eB q.2:=by
 obtain⟨p,hp⟩:∃p,l[i]? =some p:=⟨_,Yi (by rw[h.1];exact hi)⟩
 obtain⟨q,hq⟩:∃q,bl[i]? =some q:=⟨_,Yi hi⟩
 exact⟨p,q,hp,hq,(h.2 i p q hp hq).2⟩
end Go.Sx
