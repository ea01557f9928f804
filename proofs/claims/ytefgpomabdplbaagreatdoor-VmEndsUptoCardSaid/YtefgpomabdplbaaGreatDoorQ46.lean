import Derived.Test.YtefgpomabdplbaaGreatDoorQ44
import Derived.Shelf.Sort.Plain
import Derived.Shelf.Strings.Fields
import Derived.Ground.Names2Prog
import Derived.Shelf.Slices.CompactI
import Derived.Shelf.Slices.In.SortNone
import Derived.Test.YtefgpomabdplbaaGreatDoorProg
set_option linter.unusedVariables false
set_option linter.unusedSimpArgs false
set_option linter.unusedSectionVars false
set_option linter.unnecessarySimpa false
set_option maxHeartbeats 0
namespace Go.Sx
open Go Go.Proofs
set_option maxRecDepth 100000
def w9 (k:Int):Nat:=(IntKind.u64.wrap k).toNat
theorem Ez (k:Int):IntKind.u64.wrap k=((w9 k:Nat):Int):=by
 have h:0≤IntKind.u64.wrap k:=by
  unfold IntKind.wrap
  simp[IntKind.signed,IntKind.bits]
  omega
 unfold w9;omega
structure SmP (fs:List FV) (d:ja):Prop where
 sm:SmD fs d.1
 z:dsz d.1≤30000000
 t:oF fs d.1=0→(eE fs d.1).length≤2000000
 x:d.2.length≤1000000000
theorem y6 {fs:List FV}{ds:List Doc}(h:jF fs ds):(y7 fs ds).length≤1000000000:=by
 have hg:=h.goodT
 have ht:=h.toks
 have hz:=h.size
 have hn:=h.few
 have hfl:=h.flen
 have h1:=qN hg
 have h2:=pS (eE fs ds)
 have h3:=zi (Cj hg ht) (by rw[gS];omega)
 rw[gS]at h3
 have h4:=z7 h.chk
 have h5:=lP (fs:=fs) hz hn fs.length
 have h6:=iM (fs:=fs) (ds:=ds) (aa) h.q
 have h7:=ob (l:=ds.map (·.1)) h.pos (fun x hx=> bC)
 rw[Yh]at h7
 have h8:=ef (n:=ds.length) (k:=6) (aa) (aa)
 have hI:(mH ds).length≤10*4096+6:=by rw[mH,Ya];omega
 have hu:∀n,n<1099511627776→(uv n).length≤6:=fun n hn=> ef hn (aa)
 have u0:(uv 6).length≤6:=hu 6 (ag)
 show(kT 83 (lJ fs ds)).length≤_
 rw[tV,show(lJ fs ds).length=6 from rfl]
 simp only[dW,lJ,List.flatMap_cons,List.flatMap_nil,Ya,Yc,ql]
 have u1:=hu (wW fs).length (aa)
 have u2:=hu (mH ds).length (aa)
 have u3:=hu (kY fs ds fs.length).length (aa)
 have u4:=hu (fA (gb 0 (dm (eE fs ds)))).length (aa)
 have u5:=hu (dB (dm (eE fs ds))).length (aa)
 have u6:=hu (ep fs ds).length (aa)
 omega
theorem IL {G:cK}{H:cG}{fv pv:SV}{kp:Int}{a:PrA}{all:Bool}{fs:List FV}{lp:List (SV×SV)}{ps:List ja} [hg:Glb G H] [Tab H 27 lg] [Tab H 25 jP] [hf:Sl H fv eF fs] [hd:Sl H pv eP lp] [Spc H] (hT:gU G) (hS:lz) (hpi:oS H lp ps) (hpl:ps.length≤1000000000) (hsm:∀p∈ps,SmP fs p) (hfl:fs.length≤1000000) (hfn:∀f∈fs,f.name.size≤1000000000):
 SC G Tryz.prog 6 [.agg [fv.val,pv.val, .int .i64 kp,a.av.val,a.cu.val,a.ne.val, .bool all,a.dr.val,a.co.val].toArray] H (fun v H'=>
  (v= .tuple #[.pointer none, .agg [.slice none 0 0, .slice none 0 0].toArray, .int .i64 1]∧H'=H)∨
  (∃(d:ja) (dv xv:SV) (pt:PtA) (ws:List Nat) (F:cG),rX fs ps=true∧d∈ps∧Ba d.1.length d.2 ws∧dq F pt ⟨fs,d.1,ws⟩∧v= .tuple #[.pointer (some ⟨pt.p,0,none⟩), .agg [dv.val,xv.val].toArray, .int .i64 0]∧H'=fB F::H)):=by
 have hll:=hpi.1
 refine sWk Tryz.func6 Tryz.ntmps6 ?_
 refine gk (k:=bxx (k:=fun b1=>?_))
 refine gk (k:=alc (k:=fun b3=>?_))
 refine go ?_
 refine d1_ rfl (PZ (hpi.less (hsb)) hpl (fun p hp=> (hsm p hp).sm) hfl hfn) (k:=gk (k:=dN 6 17 (k:=fun h1=>gk (k:=edq)) (q:=gk (k:=wi_ (k:=fun h2=>?_) (m:=fun h2=>?_)))))
 ·refine ws_ (wr_ (e_ (bld []) (k:=gk (k:=rt_ Tryz.results6 (k:=?_)))))
  exact⟨_,hsb, .inl ⟨rfl,rfl⟩⟩
 have hok:rX fs ps=true∧0<ps.length:=by have h9:=h2;exact⟨h9.1,aa⟩
 obtain⟨hfx,hne⟩:=hok
 obtain⟨n9,hn9⟩:∃n,n=w9 kp % ps.length:=⟨_,rfl⟩
 have hlt:n9<ps.length:=by rw[hn9];exact Nat.mod_lt _ hne
 obtain⟨p,d,l,hp,hd9,g1,g2,g3⟩:=hpi.get (i:=n9) (aa)
 have hdm:=Yj hd9
 have hck:=Cg hfx hdm
 have hs:=hsm _ hdm
 have hsok:=mZ hck hs.z (hs.t hck)
 refine go ?_
 refine df cI (fun i=> [14,15].contains i) (fun k H=> (k=2→cQ H b1 [fv.val,pv.val, .int .i64 kp,a.av.val,a.cu.val,a.ne.val, .bool all,a.dr.val,a.co.val])∧(k=4→cQ H b1 [fv.val,pv.val, .int .i64 kp,a.av.val,a.cu.val,a.ne.val, .bool all,a.dr.val,a.co.val])∧(k=8→cQ H b1 [fv.val,pv.val, .int .i64 kp,a.av.val,a.cu.val,a.ne.val, .bool all,a.dr.val,a.co.val])∧(k=9→Sl H pv eP lp)∧(k=12→Sl H pv eP lp)∧(k=13→Sl H pv eP lp)) (af_ 0 (q:=cD fun H hH=>fla) (k:=af_ 1 (q:=cD fun H hH=>fla) (k:=?_)))
 refine cE 2 rfl rfl (a8) rfl (cD fun H hH=>ak) (?_)
 refine af_ 3 (q:=cD fun H hH=>fla) (k:=?_)
 refine cE 4 rfl rfl (a8) rfl (cD fun H hH=>ar) (?_)
 refine cE 5 rfl rfl (a8) rfl (cD fun H hH=>ui rfl ((w9 kp:Nat):Int) (Ez kp)) (?_)
 refine af_ 6 (q:=cD fun H hH=>fla) (k:=af_ 7 (q:=cD fun H hH=>fla) (k:=?_))
 refine cE 8 rfl rfl (a8) rfl (cD fun H hH=>aF) (?_)
 refine cE 9 rfl rfl (a8) rfl (cD fun H hH=>by have hN:=hH.2.2.2.1 rfl;exact lnn) (?_)
 refine cE 10 rfl rfl (a8) rfl (cD fun H hH=>cU 18446744073709551616 rfl rfl rfl ps.length (by rw[hll]) (aa)) (?_)
 refine cE 11 rfl rfl (a8) rfl (cD fun H hH=>evq (kG rfl rfl (w9 kp) ps.length rfl rfl hne) (congrArg (fun n:Nat=> Value.int .u64 (n:Int)) hn9.symm)) (?_)
 refine cE 12 rfl rfl (a8) rfl (cD fun H hH=>by have hN:=hH.2.2.2.2.1 rfl;exact ixa) (?_)
 refine cE 13 rfl rfl (a8) rfl (cD fun H hH=>by have hN:=hH.2.2.2.2.2 rfl;exact jn (hy:=hp)) (?_)
 refine cN 14 rfl (a8) rfl (fun k hk=> ⟨fun hi=> ab,fun hi=> ab,fun hi=> ab,fun hi=> ab,fun hi=> ab,fun hi=> ab⟩) (nK) ?_
 rintro _ _ ⟨b5,rfl,rfl⟩
 refine cN 15 rfl (a8) rfl (fun k hk=> ⟨fun hi=> ab,fun hi=> ab,fun hi=> ab,fun hi=> ab,fun hi=> ab,fun hi=> ab⟩) (dM rfl rfl rfl) ?_
 rintro _ _ ⟨rfl,rfl⟩
 refine db (a8) (fun k hk=> ⟨fun hi=> absurd hk (ad),fun hi=> absurd hk (ad),fun hi=> absurd hk (ad),fun hi=> absurd hk (ad),fun hi=> absurd hk (ad),fun hi=> absurd hk (ad)⟩) (go ?_)
 refine c2_ rfl (KP (ds:=d.1) (dead:=d.2) hT hS (g2.less (hsb)) hck hs.z (hs.t hck) (y6 hsok) hs.x) (k:=?_)
 rintro _ _ ⟨pt,ws,F,hdo,hpt,rfl,rfl⟩
 refine e_ asn (k:=on_ (qn_ (ws_ (ws_ (wr_ (e_ mv (k:=?_)))))))
 refine e_ (dU rfl) (k:=?_)
 refine gk (k:=wi_ (k:=fun h3=>?_) (m:=fun h3=>?_))
 ·exact absurd h3 (an)
 refine go ?_
 refine df cI (fun i=> [3].contains i) (fun k H=> (k=1→cQ H b5 [p.1.val,p.2.val])) (af_ 0 (q:=cD fun H hH=>mv) (k:=?_))
 refine cE 1 rfl rfl (a8) rfl (cD fun H hH=>cw) (?_)
 refine af_ 2 (q:=cD fun H hH=>asn) (k:=?_)
 refine cN 3 rfl (a8) rfl (fun k hk=> fun hi=> ab) (dM rfl rfl rfl) ?_
 rintro _ _ ⟨rfl,rfl⟩
 refine af_ 4 (q:=cD fun H hH=>asn) (k:=db (a8) (fun k hk=> fun hi=> absurd hk (ad)) (gk (k:=rt_ Tryz.results6 (k:=?_))))
 exact⟨_,hsb, .inr ⟨d,p.1,p.2,pt,ws,F,hfx,hdm,hdo,hpt,rfl,rfl⟩⟩
open Go
def fdC (ps:List Po) (d:Int):Nat:=qf ps 0 d
def Beh (c:CuS) (d:Int):Prop:=c.u≤fdC c.ps d+1
theorem Beh.up {c:CuS}{d e:Int}(h:Beh c d) (hde:d≤e):Beh c e:=by
 obtain⟨a1,a2,a3,a4⟩:=AU (ps:=c.ps) (u:=0) (t:=e) (Yl _)
 obtain⟨b1,b2,b3,b4⟩:=AU (ps:=c.ps) (u:=0) (t:=d) (Yl _)
 have hb:c.u≤qf c.ps 0 d+1:=h
 show c.u≤qf c.ps 0 e+1
 by_cases hlt:qf c.ps 0 e<qf c.ps 0 d
 ·have hl:qf c.ps 0 e<c.ps.length:=by omega
  have hp:=Yi hl
  have h3:=b3 _ _ (Yl _) hlt hp
  have h4:=a4 _ hp
  omega
 ·omega
structure BehA (pss:List (List Po)) (cs:List CuS) (d:Int):Prop where
 same:cs.map (·.ps)=pss
 beh:∀c∈cs,Beh c d
theorem BehA.up {pss:List (List Po)}{cs:List CuS}{d e:Int}(h:BehA pss cs d) (hde:d≤e):BehA pss cs e:=⟨h.same,fun c hc=> (h.beh c hc).up hde⟩
theorem BehA.start {pss:List (List Po)}{d:Int}:BehA pss (lh pss).cs d:=by
 refine⟨by simp[lh,List.map_map,Function.comp_def],fun c hc=> ?_⟩
 obtain⟨ps,_,rfl⟩:=List.mem_map.1 hc
 exact Yl _
theorem BehA.get {pss:List (List Po)}{cs:List CuS}{d:Int}(h:BehA pss cs d) (k:Nat):Beh (cs.getD k m5) d:=by
 rw[List.getD_eq_getElem?_getD]
 cases hk:cs[k]? with
 |none=> exact Yl _
 |some c=> exact h.beh c (Yj hk)
theorem BehA.set {pss:List (List Po)}{cs:List CuS}{d:Int}(h:BehA pss cs d) {k:Nat}{c:CuS}(hp:c.ps=(cs.getD k m5).ps) (hc:Beh c d):BehA pss (cs.set k c) d:=by
 refine⟨?_,fun x hx=> ?_⟩
 ·rw[←h.same,List.map_set]
  refine List.ext_getElem? fun j=> ?_
  rw[List.getElem?_set]
  by_cases e:k=j
  ·subst e
   rw[if_pos rfl,Yh]
   by_cases hk:k<cs.length
   ·rw[if_pos hk,Xd,hp,List.getD_eq_getElem?_getD,Yi hk];all_goals rfl
   ·rw[if_neg hk,Xd,List.getElem?_eq_none (aa)];all_goals rfl
  ·rw[if_neg e]
 ·rcases List.mem_or_eq_of_mem_set hx with hx|rfl
  ·exact h.beh x hx
  ·exact hc
def Stood (cs:List CuS) (k:Nat) (d:Int):Prop:=k<cs.length→(cs.getD k m5).u=fdC (cs.getD k m5).ps d+1
theorem getD_set_self {cs:List CuS}{k:Nat}{c:CuS}(h:k<cs.length):(cs.set k c).getD k m5=c:=by
 rw[List.getD_eq_getElem?_getD,List.getElem?_set_self h];all_goals rfl
theorem getD_set_ne9 {cs:List CuS}{j k:Nat}{c:CuS}(h:j≠k):(cs.set j c).getD k m5=cs.getD k m5:=by
 rw[List.getD_eq_getElem?_getD,List.getElem?_set_ne h,←List.getD_eq_getElem?_getD]
theorem Stood.set {cs:List CuS}{j k:Nat}{d:Int}{c:CuS}(h:Stood cs k d) (hp:c.ps=(cs.getD j m5).ps) (hc:j=k→c.u=fdC c.ps d+1):Stood (cs.set j c) k d:=by
 intro hk
 rw[List.length_set]at hk
 by_cases e:j=k
 ·subst e
  rw[getD_set_self hk]
  exact hc rfl
 ·rw[getD_set_ne9 e]
  exact h hk
theorem filt_le {α:Type}{p q:α→Bool}(hpq:∀x,p x=true→q x=true):∀(l:List α),(l.filter p).length≤(l.filter q).length
 | []=> Nat.le_refl _
 |a::l=> by
  have:=filt_le hpq l
  cases hp:p a with
  |true=> rw[List.filter_cons_of_pos hp,List.filter_cons_of_pos (hpq a hp),Yb,Yb];omega
  |false=>
   rw[List.filter_cons_of_neg (by simp[hp])]
   cases hq:q a with
   |true=> rw[List.filter_cons_of_pos hq,Yb];omega
   |false=> rw[List.filter_cons_of_neg (by simp[hq])];exact this
theorem filt_lt {α:Type}{p q:α→Bool}(hpq:∀x,p x=true→q x=true):∀{l:List α}{a:α},a∈l→q a=true→p a=false→(l.filter p).length+1≤(l.filter q).length
 |b::l,a,hm,hq,hp=> by
  have hle:=filt_le hpq l
  rcases List.mem_cons.1 hm with rfl|hm
  ·rw[List.filter_cons_of_neg (by simp[hp]),List.filter_cons_of_pos hq,Yb];omega
  ·have ih:=filt_lt hpq hm hq hp
   cases hb:p b with
   |true=> rw[List.filter_cons_of_pos hb,List.filter_cons_of_pos (hpq b hb),Yb,Yb];omega
   |false=>
    rw[List.filter_cons_of_neg (by simp[hb])]
    cases hq:q b with
    |true=> rw[List.filter_cons_of_pos hq,Yb];omega
    |false=> rw[List.filter_cons_of_neg (by simp[hq])];exact ih
def lvC (c:Cfg) (pl:Int):Nat:=((List.range c.ids.length).filter fun d:Nat=> decide ((d:Int)≤pl) && !c.dead d).length
def liveC (c:Cfg):List Nat:=(List.range c.ids.length).filter fun d:Nat=> !c.dead d
theorem lvC_le (c:Cfg) (pl:Int):lvC c pl≤(liveC c).length:=by
 unfold lvC liveC
 exact filt_le (fun d h=> by simp only[Bool.and_eq_true]at h;exact h.2) _
theorem lvC_lt {c:Cfg}{a b:Int}(hab:a<b) (hb:ly c b=true):lvC c a+1≤lvC c b:=by
 have h1:=hb
 unfold ly at h1
 simp only[Bool.and_eq_true,decide_eq_true_eq,Bool.not_eq_true']at h1
 unfold lvC
 refine filt_lt (a:=b.toNat) (fun d h=> ?_) (List.mem_range.2 (aa)) ?_ ?_
 ·simp only[Bool.and_eq_true,decide_eq_true_eq,Bool.not_eq_true']at h⊢
  exact⟨aa,h.2⟩
 ·simp only[Bool.and_eq_true,decide_eq_true_eq,Bool.not_eq_true']
  exact⟨aa,h1.2⟩
 ·rw[Yr (aa)];all_goals rfl
structure EndOk (c:Cfg) (s:MS):Prop where
 vis:s.visits≤lvC c s.pl
 min:s.visits≤s.steps
def HitsAt (c:Cfg):Int→List Hit→Prop
 |_, []=> True
 |lo,h::r=> ∃d:Nat,lo<(d:Int)∧d<c.ids.length∧c.dead d=false∧h.1=c.ids.getD d 0∧HitsAt c (d:Int) r
theorem HitsAt.less {c:Cfg}{lo lo':Int}(h:lo≤lo'):∀{hs:List Hit},HitsAt c lo' hs→HitsAt c lo hs
 | [],_=> trivial
 |_::_,⟨d,h1,h2,h3,h4,h5⟩=> ⟨d,aa,h2,h3,h4,h5⟩
theorem runV_one {c:Cfg}{d:Nat}:∀(n pc:Nat) (st:List VV) (cs:List CuS) (k:Nat),1≤n→k+1≤(qL c d n pc st cs k).2.2
 |n+1,pc,st,cs,k,_=> by
  rw[qL]
  split
  ·exact Nat.le_refl _
  ·rcases Nat.eq_zero_or_pos n with rfl|hn
   ·exact Nat.le_refl _
   ·have:=runV_one (c:=c) (d:=d) n (opV c d (jR c pc) (pc+1) st cs).1 (opV c d (jR c pc) (pc+1) st cs).2.1 (opV c d (jR c pc) (pc+1) st cs).2.2 (k+1) hn
    omega
theorem hit_end {c:Cfg}{pss:List (List Po)}(hdr:l3 c pss.length) (hn:c.ids.length≤2147483647) (h1i:1≤c.ins.length):∀(n:Nat) (s:MS),jO c pss s→EndOk c s→
 EndOk c (qU c n s).2∧s.visits≤(qU c n s).2.visits∧(∀x,(qU c n s).1=some x→s.visits+1≤(qU c n s).2.visits∧∃d:Nat,s.pl<(d:Int)∧d<c.ids.length∧c.dead d=false∧x.1=c.ids.getD d 0∧(qU c n s).2.pl=(d:Int))
 | 0,s,h,he=> ⟨he,Nat.le_refl _,fun x h=> aW⟩
 |n+1,s,h,he=> by
  obtain⟨h1,h2,h3,h4,h5⟩:=q8 hdr hn h
  have he1:=he.vis
  have he2:=he.min
  have hmono:∀{a b:Int},a≤b→lvC c a≤lvC c b:=fun{a b} hab=> filt_le (fun d h=> by simp only[Bool.and_eq_true,decide_eq_true_eq]at h⊢;exact⟨aa,h.2⟩) _
  rw[qU]
  split
  ·exact⟨⟨by rw[h3];exact Xi he1 (hmono h4),by rw[h2,h3];exact he2⟩,by rw[h3];exact Nat.le_refl _,fun x h=> aW⟩
  ·rename_i hy
   obtain⟨h6,h7⟩:=h5 (by simpa using hy)
   obtain⟨v1,v2,v3,v4,v5⟩:=Em (c:=c) h1.cs
   obtain⟨w1,w2,w3,w4⟩:=xy hdr hn h (by simpa using hy)
   have hlt:=lvC_lt h6 h7
   have h8:(er c s).2.steps+1≤(hU c (er c s).2).2.steps:=runV_one (c:=c) (d:=(er c s).2.pl.toNat) c.ins.length 0 [] (er c s).2.cs (er c s).2.steps h1i
   have hE:EndOk c (hU c (er c s).2).2:=⟨by rw[v2,v3,h3];omega,by rw[v3,h3];omega⟩
   split
   ·refine⟨hE,by rw[v3,h3];omega,fun x hx=> ⟨by rw[v3,h3];omega,(er c s).2.pl.toNat,?_⟩⟩
    have h9:=zD h7
    have h10:=h7
    unfold ly at h10
    simp only[Bool.and_eq_true,decide_eq_true_eq,Bool.not_eq_true']at h10
    refine⟨aa,aa,h10.2,?_,by rw[v2];omega⟩
    obtain rfl:=Option.some.inj hx
    rfl
   ·obtain⟨i1,i2,i3⟩:=hit_end hdr hn h1i n _ w1 hE
    refine⟨i1,by rw[v3,h3]at i2;omega,fun x hx=> ?_⟩
    obtain⟨j1,d,j2,j3⟩:=i3 x hx
    exact⟨by rw[v3,h3]at j1;omega,d,by rw[v2]at j2;omega,j3⟩
theorem all_end {c:Cfg}{pss:List (List Po)}(hdr:l3 c pss.length) (hn:c.ids.length≤2147483647) (h1i:1≤c.ins.length):∀(n:Nat) (s:MS),jO c pss s→EndOk c s→
 EndOk c (kS c n s).2∧s.visits+(kS c n s).1.length≤(kS c n s).2.visits∧HitsAt c s.pl (kS c n s).1
 | 0,s,h,he=> ⟨he,Nat.le_refl _,trivial⟩
 |n+1,s,h,he=> by
  obtain⟨h1,h2,h3⟩:=hit_end hdr hn h1i (c.ids.length+1) s h he
  obtain⟨h4,_⟩:=tJ hdr hn h
  cases hx:(dV c s).1 with
  |none=>
   rw[HI hx]
   exact⟨h1,h2,trivial⟩
  |some x=>
   rw[HH hx]
   obtain⟨h5,d,h6,h7,h8,h9,h10⟩:=h3 x hx
   obtain⟨i1,i2,i3⟩:=all_end hdr hn h1i n _ h4 h1
   refine⟨i1,?_,d,h6,h7,h8,h9,?_⟩
   ·show s.visits+((kS c n (dV c s).2).1.length+1)≤(kS c n (dV c s).2).2.visits
    unfold dV at i2⊢
    omega
   ·rw[←h10];exact i3
theorem start_end {c:Cfg}(pss:List (List Po)):EndOk c (lh pss):=⟨Yl _,Nat.le_refl _⟩
theorem moves_le {pss:List (List Po)}:∀{cs:List CuS},gW pss cs→(cs.map (·.mv)).sum≤(pss.map fun ps=> 2*ps.length+dg ps+1).sum:=by
 have key:∀(cs:List CuS),(∀x∈cs,iK x)→(cs.map (·.mv)).sum≤((cs.map (·.ps)).map fun ps=> 2*ps.length+dg ps+1).sum:=by
  intro cs
  induction cs with
  |nil=> intro _;exact Nat.le_refl _
  |cons a l ih=>
   intro h
   have h1:=ih fun x hx=> h x (Xa _ hx)
   have h2:=h a (List.mem_cons_self ..)
   have h3:=h2.mvs
   have h4:=h2.at_
   have h5:dg (a.ps.take (if a.told=true then a.u else a.u - 1))≤dg a.ps:=by
    have h6:=CL a.ps (Nat.le_max_left (if a.told=true then a.u else a.u - 1) a.ps.length)
    rwa [List.take_of_length_le (Nat.le_max_right _ _)]at h6
   simp only[List.map_cons,List.sum_cons]at h1⊢
   omega
 intro cs h
 have h1:=key cs h.ok
 rw[h.same]at h1
 exact h1
theorem filter_split {P:Nat→Bool}{lo:Int}{d:Nat}(hlo:lo<(d:Int)) (hP:P d=true):∀{l:List Nat},l.Pairwise (· < ·)→d∈l→
 l.filter (fun x:Nat=> decide (lo<(x:Int)) && P x)=l.filter (fun x:Nat=> decide (lo<(x:Int)) && decide (x<d) && P x)++d::l.filter (fun x:Nat=> decide ((d:Int)<(x:Int)) && P x)
 |a::l,hp,hm=> by
  obtain⟨h1,h2⟩:=List.pairwise_cons.1 hp
  rcases Nat.lt_trichotomy a d with h|rfl|h
  ·have hm':d∈l:=by
    rcases List.mem_cons.1 hm with rfl|hm
    ·omega
    ·exact hm
   have ih:=filter_split hlo hP h2 hm'
   have e3:(decide ((d:Int)<(a:Int)) && P a)=false:=by rw[Yr (aa)];all_goals rfl
   rw[List.filter_cons,List.filter_cons (p:=fun x:Nat=> decide (lo<(x:Int)) && decide (x<d) && P x),List.filter_cons (p:=fun x:Nat=> decide ((d:Int)<(x:Int)) && P x),e3,ih,Ys h,Bool.and_true]
   all_goals (cases hq:(decide (lo<(a:Int)) && P a) <;> rfl)
  ·have e1:(decide (lo<(a:Int)) && P a)=true:=by rw[Ys hlo,hP];all_goals rfl
   have e2:(decide (lo<(a:Int)) && decide (a<a) && P a)=false:=an
   have e3:(decide ((a:Int)<(a:Int)) && P a)=false:=an
   rw[List.filter_cons,List.filter_cons (p:=fun x:Nat=> decide (lo<(x:Int)) && decide (x<a) && P x),List.filter_cons (p:=fun x:Nat=> decide ((a:Int)<(x:Int)) && P x),e1,e2,e3]
   have f1:l.filter (fun x:Nat=> decide (lo<(x:Int)) && P x)=l.filter (fun x:Nat=> decide ((a:Int)<(x:Int)) && P x):=List.filter_congr fun x hx=> by
    have:=h1 x hx
    rw[Ys (show lo<(x:Int)from aa),Ys (show(a:Int)<(x:Int)from aa)]
   have f2:l.filter (fun x:Nat=> decide (lo<(x:Int)) && decide (x<a) && P x)= []:=List.filter_eq_nil_iff.2 fun x hx=> by
    have:=h1 x hx
    rw[Yr (show ¬x<a from aa)]
    simp
   rw[f1,f2]
   all_goals rfl
  ·rcases List.mem_cons.1 hm with rfl|hm
   ·omega
   ·have:=h1 d hm
    omega
def liveF (c:Cfg) (lo:Int):List Nat:=(List.range c.ids.length).filter fun x:Nat=> decide (lo<(x:Int)) && !c.dead x
theorem liveF_all (c:Cfg):liveF c (-1)=liveC c:=List.filter_congr fun x _=> by rw[Ys (aa),Bool.true_and]
def HitsIn:List Int→List Hit→Prop
 |_, []=> True
 |L,h::r=> ∃k:Nat,L[k]? =some h.1∧(∀j x,j<k→L[j]? =some x→x<h.1)∧HitsIn (L.drop (k+1)) r
theorem hits_in {c:Cfg}(hids:∀i j:Nat,i<j→j<c.ids.length→c.ids.getD i 0<c.ids.getD j 0):∀{hs:List Hit}{lo:Int},HitsAt c lo hs→HitsIn ((liveF c lo).map fun d=> c.ids.getD d 0) hs
 | [],_,_=> trivial
 |h::r,lo,⟨d,h1,h2,h3,h4,h5⟩=> by
  have hs:=filter_split (P:=fun x=> !c.dead x) (lo:=lo) (d:=d) h1 (by rw[h3];all_goals rfl) (List.pairwise_lt_range (n:=c.ids.length)) (List.mem_range.2 h2)
  have ih:=hits_in hids h5
  unfold liveF
  rw[hs,List.map_append,List.map_cons]
  refine⟨((List.range c.ids.length).filter fun x:Nat=> decide (lo<(x:Int)) && decide (x<d) && !c.dead x).length,?_,?_,?_⟩
  ·rw[Yu (by rw[Yh];exact Nat.le_refl _),Yh,Nat.sub_self,h4];all_goals rfl
  ·intro j x hj hx
   rw[Yv (by rw[Yh];exact hj),Xd]at hx
   obtain⟨y,hy,rfl⟩:=Option.map_eq_some_iff.1 hx
   have hm:=Yj hy
   obtain⟨_,hb⟩:=List.mem_filter.1 hm
   simp only[Bool.and_eq_true,decide_eq_true_eq]at hb
   rw[h4]
   exact hids y d hb.1.2 h2
  ·have e:∀(A B:List Int) (x:Int) (n:Nat),n=A.length→(A++x::B).drop (n+1)=B:=by
    intro A B x n hn
    subst hn
    rw[show A.length+1=A.length+1 from rfl,List.drop_append]
    simp
   rw[e _ _ _ _ (by rw[Yh])]
   exact ih
structure StepG (p:PrG) (code:List Ins) (g:Nat→Nat) (i:Nat):Prop where
 eff:iW (code.getD i (0,0,0)) (g i)=some (g (i+1))
 last:i+1=code.length↔(code.getD i (0,0,0)).1=0
 oper:p9 p (code.getD i (0,0,0))=true
 jump:pg (code.getD i (0,0,0))=true→(code.getD i (0,0,0)).2.1≤code.length - 2 - i∧g (i+1+(code.getD i (0,0,0)).2.1)=g (i+1)
structure VOk (v:VV):Prop where
 z:v.1=false→v.2=0
 s:v.2<18446744073709551616
theorem vok_f:VOk (false,0):=⟨fun _=> rfl,ag⟩
def StOk (st:List VV):Prop:=∀v∈st,VOk v
theorem StOk.top {st:List VV}(h:StOk st):VOk (fR st):=by
 unfold fR
 cases e:st.getLast? with
 |none=> exact vok_f
 |some v=> exact h v (List.mem_of_getLast? e)
theorem StOk.drop {st:List VV}(h:StOk st):StOk st.dropLast:=fun v hv=> h v ((List.dropLast_sublist st).subset hv)
theorem StOk.snoc {st:List VV}(h:StOk st) {v:VV}(hv:VOk v):StOk (st++ [v]):=fun u hu=> by
 rcases List.mem_append.1 hu with hu|hu
 ·exact h u hu
 ·rw[List.mem_singleton.1 hu];exact hv
theorem StOk.two {st:List VV}(h:StOk st) {f:VV→VV→VV}(hf:∀a b,VOk a→VOk b→(f a b).2<18446744073709551616):StOk (kh st f):=by
 unfold kh
 refine h.drop.drop.snoc ⟨fun e=> ?_,?_⟩
 ·dsimp only at e⊢
  rw[e];all_goals rfl
 ·dsimp only
  split
  ·exact hf _ _ h.drop.top h.top
  ·decide
theorem StOk.one {st:List VV}(h:StOk st) {f:VV→VV}(hf:∀a,VOk a→VOk (f a)):StOk (nu st f):=h.drop.snoc (hf _ h.top)
variable {c:Cfg}{pss:List (List Po)}{d A C n:Nat}{a b:VV}
end Go.Sx
namespace Go.Sx
open Go
structure StepM (p:PrG) (a:List Ins) (g:Nat→Nat) (i:Nat):Prop where
 eff:iW (a.getD i (0,0,0)) (g i)=some (g (i+1))
 nz:(a.getD i (0,0,0)).1≠0
 oper:p9 p (a.getD i (0,0,0))=true
 jump:pg (a.getD i (0,0,0))=true→(a.getD i (0,0,0)).2.1≤a.length - 2 - i∧g (i+1+(a.getD i (0,0,0)).2.1)=g (i+1)
theorem effV_up {x:Ins}{h h':Nat}(h0:x.1≠0) (he:iW x h=some h'):iW x (1+h)=some (1+h'):=by
 obtain⟨o,A,C⟩:=x
 have psh:some (h+1)=some h'→some (1+h+1)=some (1+h'):=fun e=> by
  have:=Option.some.inj e
  congr 1
  omega
 have two:(if 2≤h then some (h - 1)else none)=some h'→(if 2≤1+h then some (1+h - 1)else none)=some (1+h'):=fun e=> by
  by_cases h2:2≤h
  ·rw[if_pos h2]at e
   have:=Option.some.inj e
   rw[if_pos (aa)]
   congr 1
   omega
  ·rw[if_neg h2]at e;cases e
 have one:(if 1≤h then some h else none)=some h'→(if 1≤1+h then some (1+h)else none)=some (1+h'):=fun e=> by
  by_cases h2:1≤h
  ·rw[if_pos h2]at e
   have:=Option.some.inj e
   rw[if_pos (aa)]
   congr 1
   omega
  ·rw[if_neg h2]at e;cases e
 match o with
 | 0=> exact absurd rfl h0
 | 1=> exact psh he
 | 2=> exact psh he
 | 3=> exact psh he
 | 4=> exact psh he
 | 5=> exact psh he
 | 6=> exact two he
 | 7=> exact two he
 | 8=> exact two he
 | 9=> exact two he
 | 10=> exact two he
 | 11=> exact one he
 | 12=> exact one he
 | 13=> exact one he
 | 14=>
  have he':(if h<A then none else some (h - A+1))=some h':=he
  show(if 1+h<A then none else some (1+h - A+1))=some (1+h')
  by_cases h2:h<A
  ·rw[if_pos h2]at he';cases he'
  ·rw[if_neg h2]at he'
   have:=Option.some.inj he'
   rw[if_neg (aa)]
   congr 1
   omega
 | 15=> exact one he
 | 16=> exact one he
 |n+17=> exact one he
theorem StepM.up {p:PrG}{a:List Ins}{g:Nat→Nat}{i:Nat}(h:StepM p a g i):StepM p a (fun j=> 1+g j) i:=
 ⟨effV_up h.nz h.eff,h.nz,h.oper,fun hJ=> ⟨(h.jump hJ).1,by have:=(h.jump hJ).2;omega⟩⟩
theorem StepG.code {p:PrG}{a:List Ins}{g:Nat→Nat}{i:Nat}(k:List Nat) (h:StepG p a g i):StepG {p with code:=k} a g i:=⟨h.eff,h.last,h.oper,h.jump⟩
open Go Go.Proofs
set_option maxRecDepth 100000
section
variable {p:PrG}{q:PtD}{k1 k2:List Nat}{a b:List Ins}{op n:Nat}
def liveQ (q:PtD):List Nat:=(List.range q.ds.length).filter fun d=> !oG q.dw d
def idQ (q:PtD) (d:Nat):Int:=(q.ds.map (·.1)).getD d 0
end
def mostE (l:List (List Po)):Nat:=(l.map fun ps=> 2*ps.length+dg ps+1).sum
def sizeE (l:List (List Po)):Nat:=(l.map fun ps=> ps.length+dg ps).sum
theorem most_le:∀l:List (List Po),mostE l≤2*sizeE l+l.length
 | []=> Nat.le_refl _
 |ps::l=> by
  have:=most_le l
  simp only[mostE,sizeE,List.map_cons,List.sum_cons,Yb]at this⊢
  omega
theorem most_snoc (l:List (List Po)) (ps:List Po):mostE (l++ [ps])=mostE l+(2*ps.length+dg ps+1):=by
 simp[mostE]
theorem size_snoc (l:List (List Po)) (ps:List Po):sizeE (l++ [ps])=sizeE l+(ps.length+dg ps):=by
 simp[sizeE]
theorem size_lt {B:Nat}:∀{l:List (List Po)},(∀ps∈l,ps.length≤B∧dg ps≤B)→sizeE l≤l.length*(2*B)
 | [],_=> by simp[sizeE]
 |ps::l,h=> by
  have h1:=size_lt (l:=l) fun x hx=> h x (Xa _ hx)
  have h2:=h ps (List.mem_cons_self ..)
  simp only[sizeE,List.map_cons,List.sum_cons,Yb]at h1⊢
  rw[Nat.add_mul]
  omega
theorem ends_le {n C L s m v z:Nat}(h1:s≤v*n) (h2:v≤L) (h3:m≤2*z+C):s+m≤2*(n+C+1)*(L+1+z):=by
 have a1:v*n≤L*n:=Nat.mul_le_mul_right n h2
 have a2:(n+C+1)*(L+1+z)=n*L+n*(1+z)+(C*L+C+C*z)+(L+1+z):=by
  rw[Nat.add_mul,Nat.add_mul,Nat.add_assoc L 1 z,Nat.mul_add n,Nat.mul_add C,Nat.mul_add C,Nat.mul_one,Nat.one_mul]
  omega
 have a3:L*n=n*L:=Nat.mul_comm ..
 rw[Nat.mul_assoc,a2]
 omega
theorem ends_fit {n C L z:Nat}(h1:n+C≤1048576) (h2:L≤4096) (h3:z≤C*(2*1048576)):2*(n+C+1)*(L+1+z)≤4700000000000000000:=by
 have a1:C*(2*1048576)≤1048576*(2*1048576):=Nat.mul_le_mul_right _ (aa)
 have a2:2*(n+C+1)*(L+1+z)≤2*(1048576+1)*(4096+1+1048576*(2*1048576)):=Nat.mul_le_mul (aa) (aa)
 omega
theorem po_len:∀{ps:List Po},(∀p∈ps,1≤p.2.length)→ps.length≤dg ps
 | [],_=> Nat.le_refl _
 |p::l,h=> by
  have h1:=po_len (ps:=l) fun x hx=> h x (Xa _ hx)
  have h2:=h p (List.mem_cons_self ..)
  simp only[dg,List.map_cons,List.sum_cons,Yb]at h1⊢
  omega
theorem okPo_one:∀{ps:List Po}{n:Nat},fW n ps→∀p∈ps,1≤p.2.length
 |p::l,n,h,q,hq=> by
  obtain⟨_,h2,_,h4⟩:=h
  rcases List.mem_cons.1 hq with rfl|hq
  ·exact List.length_pos_iff.2 h2
  ·exact okPo_one h4 q hq
theorem hits_next {L:List Int}{k:Nat}{h:Hit}{r:List Hit}(hh:HitsIn (L.drop k) (h::r)):∃j,L[k+j]? =some h.1∧(∀i x,k≤i→i<k+j→L[i]? =some x→x<h.1)∧HitsIn (L.drop (k+j+1)) r:=by
 obtain⟨j,h1,h2,h3⟩:=hh
 refine⟨j,?_,fun i x hi hj hx=> ?_,?_⟩
 ·rw[Xh]at h1;exact h1
 ·refine h2 (i - k) x (aa) ?_
  rw[Xh,show k+(i - k)=i from aa];exact hx
 ·rw[List.drop_drop]at h3;rw[show k+j+1=k+(j+1)from aa];exact h3
end Go.Sx
namespace Go.Proofs
open Go.Sx
open Go.Shelf
def Tryz.lays189_ren:Go.Shelf.Ren:=⟨fun| 189=> 166| 125=> 179| 257=> 194| 128=> 206| 129=> 207| 294=> 211| 295=> 212| 296=> 213| 297=> 214| 298=> 215| 299=> 216| 216=> 217| 300=> 218| 301=> 219| 328=> 233| 329=> 234| 330=> 235| 331=> 236| 332=> 237| 215=> 238| 343=> 246|n=> n,fun| 28=> 28| 3=> 3| 46=> 94| 0=> 0| 51=> 267| 53=> 54| 4=> 4| 183=> 331| 182=> 330| 131=> 108| 5=> 5| 9=> 9| 218=> 353| 222=> 326| 228=> 361| 229=> 362|n=> n,fun|n=> n⟩
theorem qy:Go.Proofs.Lays.n189 Tryz.prog Tryz.lays189_ren:={
 mixed:=a8
 f125:=Tryz.func179.trans (congrArg some (a8))
 f128:=Tryz.func206.trans (congrArg some (a8))
 f129:=Tryz.func207.trans (congrArg some (a8))
 f189:=Tryz.func166.trans (congrArg some (a8))
 f215:=Tryz.func238.trans (congrArg some (a8))
 f216:=Tryz.func217.trans (congrArg some (a8))
 f257:=Tryz.func194.trans (congrArg some (a8))
 f294:=Tryz.func211.trans (congrArg some (a8))
 f295:=Tryz.func212.trans (congrArg some (a8))
 f296:=Tryz.func213.trans (congrArg some (a8))
 f297:=Tryz.func214.trans (congrArg some (a8))
 f298:=Tryz.func215.trans (congrArg some (a8))
 f299:=Tryz.func216.trans (congrArg some (a8))
 f300:=Tryz.func218.trans (congrArg some (a8))
 f301:=Tryz.func219.trans (congrArg some (a8))
 f328:=Tryz.func233.trans (congrArg some (a8))
 f329:=Tryz.func234.trans (congrArg some (a8))
 f330:=Tryz.func235.trans (congrArg some (a8))
 f331:=Tryz.func236.trans (congrArg some (a8))
 f332:=Tryz.func237.trans (congrArg some (a8))
 f343:=Tryz.func246.trans (congrArg some (a8))
 t0:=Tryz.underlying0
 a0:=Tryz.isAgg0
 z0:=Tryz.sizeOf0
 v0:=Tryz.zeroValue0
 t3:=Tryz.underlying3
 a3:=Tryz.isAgg3
 z3:=Tryz.sizeOf3
 v3:=Tryz.zeroValue3
 t4:=Tryz.underlying4
 a4:=Tryz.isAgg4
 z4:=Tryz.sizeOf4
 v4:=Tryz.zeroValue4
 t5:=Tryz.underlying5
 a5:=Tryz.isAgg5
 z5:=Tryz.sizeOf5
 v5:=Tryz.zeroValue5
 t9:=Tryz.underlying9
 a9:=Tryz.isAgg9
 z9:=Tryz.sizeOf9
 v9:=Tryz.zeroValue9
 t28:=Tryz.underlying28
 a28:=Tryz.isAgg28
 z28:=Tryz.sizeOf28
 v28:=Tryz.zeroValue28
 t46:=Tryz.underlying94
 a46:=Tryz.isAgg94
 z46:=Tryz.sizeOf94
 v46:=Tryz.zeroValue94
 t51:=Tryz.underlying267
 a51:=Tryz.isAgg267
 z51:=Tryz.sizeOf267
 v51:=Tryz.zeroValue267
 t53:=Tryz.underlying54
 a53:=Tryz.isAgg54
 z53:=Tryz.sizeOf54
 v53:=Tryz.zeroValue54
 t131:=Tryz.underlying108
 a131:=Tryz.isAgg108
 z131:=Tryz.sizeOf108
 v131:=Tryz.zeroValue108
 t182:=Tryz.underlying330
 a182:=Tryz.isAgg330
 z182:=Tryz.sizeOf330
 v182:=Tryz.zeroValue330
 t183:=Tryz.underlying331
 a183:=Tryz.isAgg331
 z183:=Tryz.sizeOf331
 v183:=Tryz.zeroValue331
 t218:=Tryz.underlying353
 a218:=Tryz.isAgg353
 z218:=Tryz.sizeOf353
 v218:=Tryz.zeroValue353
 t222:=Tryz.underlying326
 a222:=Tryz.isAgg326
 z222:=Tryz.sizeOf326
 v222:=Tryz.zeroValue326
 t228:=Tryz.underlying361
 a228:=Tryz.isAgg361
 z228:=Tryz.sizeOf361
 v228:=Tryz.zeroValue361
 t229:=Tryz.underlying362
 a229:=Tryz.isAgg362
 z229:=Tryz.sizeOf362
 v229:=Tryz.zeroValue362}
open Go.Sort Go.RowKit in
theorem Tryz.slices_Sort_int (blk off cap:Nat) (zs:List Int) (w:World) (hH:Holds (Value.int .i64) w blk off zs.toArray) (hblk:blk<w.heap.size) (hsz:zs.length<4611686018427387904):
 Calls Tryz.prog 166 #[.slice (some ⟨blk,off,none⟩) zs.length cap] w fun e w'=>
  e= .returned (.tuple #[])∧∃n os,w'=grow (putRow (Value.int .i64) (Sort.ahead w n) blk off (zs.mergeSort fun x y=> decide (x≤y)).toArray) os:=Any.slices_Sort_int qy blk off cap zs w hH hblk hsz
def Tryz.lays190_ren:Go.Shelf.Ren:=⟨fun| 190=> 173| 125=> 179| 258=> 201| 128=> 206| 129=> 207| 302=> 223| 303=> 224| 304=> 225| 305=> 226| 306=> 227| 307=> 228| 308=> 229| 309=> 230| 310=> 231| 333=> 241| 329=> 234| 330=> 235| 334=> 242| 335=> 243| 336=> 244| 344=> 249|n=> n,fun| 31=> 288| 9=> 9| 3=> 3| 46=> 94| 0=> 0| 51=> 267| 53=> 54| 4=> 4| 183=> 331| 182=> 330| 131=> 108| 5=> 5| 218=> 353| 222=> 326| 228=> 361| 229=> 362|n=> n,fun|n=> n⟩
theorem qx:Go.Proofs.Lays.n190 Tryz.prog Tryz.lays190_ren:={
 mixed:=a8
 f125:=Tryz.func179.trans (congrArg some (a8))
 f128:=Tryz.func206.trans (congrArg some (a8))
 f129:=Tryz.func207.trans (congrArg some (a8))
 f190:=Tryz.func173.trans (congrArg some (a8))
 f258:=Tryz.func201.trans (congrArg some (a8))
 f302:=Tryz.func223.trans (congrArg some (a8))
 f303:=Tryz.func224.trans (congrArg some (a8))
 f304:=Tryz.func225.trans (congrArg some (a8))
 f305:=Tryz.func226.trans (congrArg some (a8))
 f306:=Tryz.func227.trans (congrArg some (a8))
 f307:=Tryz.func228.trans (congrArg some (a8))
 f308:=Tryz.func229.trans (congrArg some (a8))
 f309:=Tryz.func230.trans (congrArg some (a8))
 f310:=Tryz.func231.trans (congrArg some (a8))
 f329:=Tryz.func234.trans (congrArg some (a8))
 f330:=Tryz.func235.trans (congrArg some (a8))
 f333:=Tryz.func241.trans (congrArg some (a8))
 f334:=Tryz.func242.trans (congrArg some (a8))
 f335:=Tryz.func243.trans (congrArg some (a8))
 f336:=Tryz.func244.trans (congrArg some (a8))
 f344:=Tryz.func249.trans (congrArg some (a8))
 t0:=Tryz.underlying0
 a0:=Tryz.isAgg0
 z0:=Tryz.sizeOf0
 v0:=Tryz.zeroValue0
 t3:=Tryz.underlying3
 a3:=Tryz.isAgg3
 z3:=Tryz.sizeOf3
 v3:=Tryz.zeroValue3
 t4:=Tryz.underlying4
 a4:=Tryz.isAgg4
 z4:=Tryz.sizeOf4
 v4:=Tryz.zeroValue4
 t5:=Tryz.underlying5
 a5:=Tryz.isAgg5
 z5:=Tryz.sizeOf5
 v5:=Tryz.zeroValue5
 t9:=Tryz.underlying9
 a9:=Tryz.isAgg9
 z9:=Tryz.sizeOf9
 v9:=Tryz.zeroValue9
 t31:=Tryz.underlying288
 a31:=Tryz.isAgg288
 z31:=Tryz.sizeOf288
 v31:=Tryz.zeroValue288
 t46:=Tryz.underlying94
 a46:=Tryz.isAgg94
 z46:=Tryz.sizeOf94
 v46:=Tryz.zeroValue94
 t51:=Tryz.underlying267
 a51:=Tryz.isAgg267
 z51:=Tryz.sizeOf267
 v51:=Tryz.zeroValue267
 t53:=Tryz.underlying54
 a53:=Tryz.isAgg54
 z53:=Tryz.sizeOf54
 v53:=Tryz.zeroValue54
 t131:=Tryz.underlying108
 a131:=Tryz.isAgg108
 z131:=Tryz.sizeOf108
 v131:=Tryz.zeroValue108
 t182:=Tryz.underlying330
 a182:=Tryz.isAgg330
 z182:=Tryz.sizeOf330
 v182:=Tryz.zeroValue330
 t183:=Tryz.underlying331
 a183:=Tryz.isAgg331
 z183:=Tryz.sizeOf331
 v183:=Tryz.zeroValue331
 t218:=Tryz.underlying353
 a218:=Tryz.isAgg353
 z218:=Tryz.sizeOf353
 v218:=Tryz.zeroValue353
 t222:=Tryz.underlying326
 a222:=Tryz.isAgg326
 z222:=Tryz.sizeOf326
 v222:=Tryz.zeroValue326
 t228:=Tryz.underlying361
 a228:=Tryz.isAgg361
 z228:=Tryz.sizeOf361
 v228:=Tryz.zeroValue361
 t229:=Tryz.underlying362
 a229:=Tryz.isAgg362
 z229:=Tryz.sizeOf362
 v229:=Tryz.zeroValue362}
open Go.Sort Go.RowKit in
theorem Tryz.slices_Sort_string (blk off cap:Nat) (ss:List (List UInt8)) (w:World) (hH:Holds encStr w blk off ss.toArray) (hblk:blk<w.heap.size) (hsz:ss.length<4611686018427387904):
 Calls Tryz.prog 173 #[.slice (some ⟨blk,off,none⟩) ss.length cap] w fun e w'=>
  e= .returned (.tuple #[])∧∃n os,w'=grow (putRow encStr (Sort.ahead w n) blk off (ss.mergeSort fun x y=> decide (x≤y)).toArray) os:=Any.slices_Sort_string qx blk off cap ss w hH hblk hsz
def Tryz.lays157_ren:Go.Shelf.Ren:=⟨fun| 157=> 240| 229=> 247| 199=> 248| 261=> 250| 311=> 251| 312=> 252|n=> n,fun| 9=> 9| 31=> 288| 3=> 3| 5=> 5| 4=> 4| 119=> 364| 0=> 0| 40=> 366| 152=> 368| 21=> 21| 154=> 370| 51=> 267| 141=> 372| 196=> 376| 193=> 373| 198=> 379| 49=> 377| 194=> 374| 201=> 382| 226=> 384| 46=> 94| 227=> 385|n=> n,fun| 0=> 26| 6=> 28|n=> n⟩
theorem xg:Go.Proofs.Lays.n157 Tryz.prog Tryz.lays157_ren:={
 mixed:=a8
 f157:=Tryz.func240.trans (congrArg some (a8))
 f199:=Tryz.func248.trans (congrArg some (a8))
 f229:=Tryz.func247.trans (congrArg some (a8))
 f261:=Tryz.func250.trans (congrArg some (a8))
 f311:=Tryz.func251.trans (congrArg some (a8))
 f312:=Tryz.func252.trans (congrArg some (a8))
 t0:=Tryz.underlying0
 a0:=Tryz.isAgg0
 z0:=Tryz.sizeOf0
 v0:=Tryz.zeroValue0
 t3:=Tryz.underlying3
 a3:=Tryz.isAgg3
 z3:=Tryz.sizeOf3
 v3:=Tryz.zeroValue3
 t4:=Tryz.underlying4
 a4:=Tryz.isAgg4
 z4:=Tryz.sizeOf4
 v4:=Tryz.zeroValue4
 t5:=Tryz.underlying5
 a5:=Tryz.isAgg5
 z5:=Tryz.sizeOf5
 v5:=Tryz.zeroValue5
 t9:=Tryz.underlying9
 a9:=Tryz.isAgg9
 z9:=Tryz.sizeOf9
 v9:=Tryz.zeroValue9
 t21:=Tryz.underlying21
 a21:=Tryz.isAgg21
 z21:=Tryz.sizeOf21
 v21:=Tryz.zeroValue21
 t31:=Tryz.underlying288
 a31:=Tryz.isAgg288
 z31:=Tryz.sizeOf288
 v31:=Tryz.zeroValue288
 t40:=Tryz.underlying366
 a40:=Tryz.isAgg366
 z40:=Tryz.sizeOf366
 v40:=Tryz.zeroValue366
 t46:=Tryz.underlying94
 a46:=Tryz.isAgg94
 z46:=Tryz.sizeOf94
 v46:=Tryz.zeroValue94
 t49:=Tryz.underlying377
 a49:=Tryz.isAgg377
 z49:=Tryz.sizeOf377
 v49:=Tryz.zeroValue377
 t51:=Tryz.underlying267
 a51:=Tryz.isAgg267
 z51:=Tryz.sizeOf267
 v51:=Tryz.zeroValue267
 t119:=Tryz.underlying364
 a119:=Tryz.isAgg364
 z119:=Tryz.sizeOf364
 t141:=Tryz.underlying372
 a141:=Tryz.isAgg372
 z141:=Tryz.sizeOf372
 v141:=Tryz.zeroValue372
 t152:=Tryz.underlying368
 a152:=Tryz.isAgg368
 z152:=Tryz.sizeOf368
 v152:=Tryz.zeroValue368
 t154:=Tryz.underlying370
 a154:=Tryz.isAgg370
 z154:=Tryz.sizeOf370
 v154:=Tryz.zeroValue370
 t193:=Tryz.underlying373
 a193:=Tryz.isAgg373
 z193:=Tryz.sizeOf373
 v193:=Tryz.zeroValue373
 t194:=Tryz.underlying374
 a194:=Tryz.isAgg374
 z194:=Tryz.sizeOf374
 v194:=Tryz.zeroValue374
 t196:=Tryz.underlying376
 a196:=Tryz.isAgg376
 z196:=Tryz.sizeOf376
 v196:=Tryz.zeroValue376
 t198:=Tryz.underlying379
 a198:=Tryz.isAgg379
 z198:=Tryz.sizeOf379
 v198:=Tryz.zeroValue379
 t201:=Tryz.underlying382
 a201:=Tryz.isAgg382
 z201:=Tryz.sizeOf382
 v201:=Tryz.zeroValue382
 t226:=Tryz.underlying384
 a226:=Tryz.isAgg384
 z226:=Tryz.sizeOf384
 v226:=Tryz.zeroValue384
 t227:=Tryz.underlying385
 a227:=Tryz.isAgg385
 z227:=Tryz.sizeOf385
 v227:=Tryz.zeroValue385
 g0:=a8
 g6:=a8}
open Go.RowKit Go.Lib in
theorem Tryz.strings_Fields (s:ByteArray) (w:World) (hs:s.size<4294967281) (hascii:∀(j:Nat) b,s.data.toList[j]? =some b→b.toNat<128) (htab:Lib.TabIs Tryz.prog w "strings.asciiSpace" .u8 Lib.asciiSpaceTab):
 Calls Tryz.prog 240 #[.string s] w fun e w'=>
  e= .returned (.slice (some ⟨w.heap.size,0,none⟩) (Lib.fields s.data.toList).length (Lib.fields s.data.toList).length)∧w'=w.alloc (.cells ((Lib.fields s.data.toList).map fun l=> Value.string ⟨l.toArray⟩).toArray 9):=Any.strings_Fields xg (a8) (a8) s w hs hascii htab
def Tryz.laysNm220_ren:Go.Shelf.Ren:=⟨fun| 20=> 168|n=> n,fun| 22=> 28| 3=> 3| 4=> 4| 0=> 0|n=> n,fun|n=> n⟩
theorem o7:Go.Proofs.Lays2.n20 Tryz.prog Tryz.laysNm220_ren:={
 mixed:=a8
 f20:=Tryz.func168.trans (congrArg some (a8))
 t0:=Tryz.underlying0
 a0:=Tryz.isAgg0
 z0:=Tryz.sizeOf0
 v0:=Tryz.zeroValue0
 t3:=Tryz.underlying3
 a3:=Tryz.isAgg3
 z3:=Tryz.sizeOf3
 v3:=Tryz.zeroValue3
 t4:=Tryz.underlying4
 a4:=Tryz.isAgg4
 z4:=Tryz.sizeOf4
 v4:=Tryz.zeroValue4
 t22:=Tryz.underlying28
 a22:=Tryz.isAgg28
 z22:=Tryz.sizeOf28
 v22:=Tryz.zeroValue28
 i3:=a8}
open Go.RowKit Go.Lib Go.Sort in
theorem Tryz.slices_Compact_int (blk off cap:Nat) (zs:List Int) (w:World) (hH:Holds (Value.int .i64) w blk off zs.toArray) (hsz:zs.length≤9223372036854775807) (hcap:zs.length≤cap):
 Calls Tryz.prog 168 #[.slice (some ⟨blk,off,none⟩) zs.length cap] w fun e w'=> e= .returned (.slice (some ⟨blk,off,none⟩) (Lib.compact zs).length cap)∧∃q,w'=putRow (Value.int .i64) (Sort.ahead w q) blk off (Lib.compact zs++List.replicate (zs.length - (Lib.compact zs).length) 0).toArray:=Any.slices_Compact_int o7 blk off cap zs w hH hsz hcap
open Go.RowKit Go.Lib Go.Sort in
theorem Tryz.slices_Compact_int_empty (a:Option Addr) (cap:Nat) (w:World):
 Calls Tryz.prog 168 #[.slice a 0 cap] w fun e w'=> e= .returned (.slice a 0 cap)∧w'=w:=Any.slices_Compact_int_empty o7 a cap w
open Go.RowKit Go.Sort in
theorem Tryz.slices_Sort_string_none (p:Option Addr) (cap:Nat) (w:World):
 Calls Tryz.prog 173 #[.slice p 0 cap] w fun e w'=> e= .returned (.tuple #[])∧w'=w:=Any.slices_Sort_string_none qx p cap w
open Go.RowKit Go.Sort in
theorem Tryz.slices_Sort_int_none (p:Option Addr) (cap:Nat) (w:World):
 Calls Tryz.prog 166 #[.slice p 0 cap] w fun e w'=> e= .returned (.tuple #[])∧w'=w:=Any.slices_Sort_int_none qy p cap w
end Go.Proofs
namespace Go.Sx
open Go Go.Proofs
set_option maxRecDepth 100000
theorem NQ:∀x y:List UInt8,x<y↔x.map (·.toNat)<y.map (·.toNat):=by
 intro x
 induction x with
 |nil=> intro y;cases y <;> simp
 |cons a x ih=>
  intro y
  cases y with
  |nil=> simp
  |cons b y=>
   simp only[List.map_cons,List.cons_lt_cons_iff,ih y,UInt8.lt_iff_toNat_lt,UInt8.toNat_inj]
def by8 (q:ByteArray):List UInt8:=q.data.toList
def un8 (l:List UInt8):ByteArray:=⟨l.toArray⟩
theorem Ig (q:ByteArray):un8 (by8 q)=q:=by cases q;simp[un8,by8]
theorem zr (l:List UInt8):cF (un8 l)=l.map (·.toNat):=by simp[cF,un8]
theorem A9 (l:List (List UInt8)):(((l.mergeSort fun x y=> decide (x≤y)).map un8).map cF).Pairwise (fun a b=> ¬b<a):=by
 rw[List.map_map]
 refine List.pairwise_map.2 ?_
 have h:(l.mergeSort fun x y=> decide (x≤y)).Pairwise fun x y=> decide (x≤y)=true:=by
  refine List.pairwise_mergeSort (le:=fun x y=> decide (x≤y)) (fun a b c h1 h2=> ?_) (fun a b=> ?_) l
  ·simp only[decide_eq_true_eq]at h1 h2⊢;exact List.le_trans h1 h2
  ·simp only[Bool.or_eq_true,decide_eq_true_eq];exact List.le_total a b
 refine h.imp fun{a b} hab=> ?_
 simp only[Function.comp,zr,←NQ]
 exact List.not_lt.2 (Yt hab)
theorem wZ:∀ss:List ByteArray,eS.all ss=ss.map Value.string
 | []=> rfl
 |q::r=> by show Value.string q::eS.all r=_;rw[wZ r];all_goals rfl
theorem qQ {w:World}{L L':nf}(hp:L'.Perm L) (h:jc w L):jc w L':=⟨((hp.map (·.1)).nodup_iff).2 h.nodup,fun x hx=> h.at_ x (hp.mem_iff.1 hx)⟩
theorem Fk:lz:=by
 intro G H R s ss hr hn
 refine⟨ko Tryz.func173 rfl (a8),fun w hw=> ?_⟩
 obtain⟨hS,L,hL,hl⟩:=hw
 obtain⟨L',hp,L1,L2,rfl,hRow,hR⟩:=hr.out L hL
 have hl':=qQ hp hl
 rcases hRow with⟨rfl,rfl,rfl⟩|⟨b,C,E,fz,h1,h2,h3,rfl,h5,hf,h7⟩
 ·refine(Tryz.slices_Sort_string_none none 0 w).mono ?_
  rintro e w' ⟨rfl,rfl⟩
  exact⟨Row SV.nil eS []::R,⟨hS,L2,⟨[],L2,rfl, .inl ⟨rfl,rfl,rfl⟩,hR⟩,by simpa using hl'⟩,rfl, [], .refl _,List.Pairwise.nil,rfl⟩
 ·have hb:w.heap[b]? =some (.cells C E fz):=hl'.at_ (b, .cells C E fz) (an)
  have hbl:b<w.heap.size:=(Array.getElem?_eq_some_iff.1 hb).1
  have hall:∀(j:Nat) (q:ByteArray),ss[j]? =some q→C[j]? =some (.string q):=fun j q hq=> h7 j _ (by
   have:=wZ ss
   rw[this,Xd,hq];all_goals rfl)
  have hH:Go.Sort.Holds encStr w b 0 (ss.map by8).toArray:=by
   intro j hj
   have hj2:j<ss.length:=by simpa using hj
   have hjq:ss[j]? =some ss[j]:=Yi hj2
   have hC:=hall j _ hjq
   have hjC:=(Array.getElem?_eq_some_iff.1 hC).1
   constructor
   ·simp only[World.cell?,hb,Nat.zero_add]
    simp[hC,encStr,by8,hj2]
   ·simp only[World.frozen?,hb,Nat.zero_add]
    have:=hf.free j hjC
    simp only[Bool.and_eq_false_iff,decide_eq_false_iff_not]
    omega
  have hv: [s.val].toArray= #[Value.slice (some ⟨b,0,none⟩) (ss.map by8).length s.c]:=by
   simp only[SV.val,h1,h2,Yh]
  rw[hv]
  refine(Tryz.slices_Sort_string b 0 s.c (ss.map by8) w hH hbl (bW)).mono ?_
  rintro e w' ⟨rfl,n,os,rfl⟩
  obtain⟨ml,hml⟩:∃ml,ml=(ss.map by8).mergeSort fun x y=> decide (x≤y):=⟨_,rfl⟩
  have hmp:ml.Perm (ss.map by8):=by rw[hml];exact List.mergeSort_perm _ _
  have hmlen:ml.length=ss.length:=by rw[hmp.length_eq,Yh]
  rw[←hml]
  refine⟨Row s eS (ml.map un8)::R,?_,rfl,ml.map un8,?_,?_,rfl⟩
  ·refine⟨⟨hS.os,hS.tape,hS.output⟩, [(b, .cells (Go.Sort.putCells encStr 0 ml.toArray C) E fz)]++L2,⟨_,L2,rfl, .inr ⟨b,_,E,fz,h1,by simp[h2,hmlen],h3,rfl,by simp[Go.Sort.putCells,h5],by simpa [Go.Sort.putCells] using hf,?_⟩,hR⟩,?_⟩
   ·intro j v hv
    have:=wZ (ml.map un8)
    rw[this,List.map_map,Xd]at hv
    cases hm:ml[j]? with
    |none=> rw[hm]at hv;cases hv
    |some q=>
     rw[hm]at hv
     obtain rfl:=Option.some.inj hv
     have hjl:=(Yk.1 hm).1
     obtain⟨q0,hq0⟩:∃q0,ss[j]? =some q0:=⟨_,Yi (aa)⟩
     have hC:=hall j q0 hq0
     have hjC:=(Array.getElem?_eq_some_iff.1 hC).1
     have hq:=(Yk.1 hm).2
     simp[Go.Sort.putCells,hjC,hjl,hq,un8]
   ·have hnd:=hl'.nodup
    simp only[List.map_append,List.map_cons,List.map_nil,Yd,Ye,List.nodup_cons]at hnd⊢
    refine⟨by simpa using hnd,fun x hx=> ?_⟩
    rcases List.mem_cons.1 hx with rfl|hx
    ·simp only[Go.Sort.grow,Go.Sort.putRow,Go.Sort.mapBlock,Go.Sort.ahead]
     rw[Array.getElem?_append_left (by simpa using hbl),Array.getElem?_modify,if_pos rfl,hb];all_goals rfl
    ·have hxb:b≠x.1:=fun h=> hnd.1 (h ▸ List.mem_map_of_mem hx)
     have hx2:=hl'.at_ x (by simp[hx])
     have hxl:=(Array.getElem?_eq_some_iff.1 hx2).1
     simp only[Go.Sort.grow,Go.Sort.putRow,Go.Sort.mapBlock,Go.Sort.ahead]
     rw[Array.getElem?_append_left (by simpa using hxl),Array.getElem?_modify,if_neg hxb,hx2]
  ·have h9:=hmp.map un8
   rw[List.map_map,show(un8∘by8)=id from funext Ig,List.map_id]at h9
   exact h9
  ·rw[hml];exact A9 _
theorem IZ {H:cG} [hs:Spc H] {G:cK}{w:World}(hw:Sat G w H):Lib.TabIs Tryz.prog w "strings.asciiSpace" .u8 Lib.asciiSpaceTab:=by
 obtain⟨hS,L,hL,hl⟩:=hw
 obtain⟨E,fz,hm⟩:=hs.out L hL
 have h:=hl.at_ _ hm
 have hg:Tryz.prog.globalNamed "strings.asciiSpace" =some 26:=a8
 have ht:(Lib.asciiSpaceTab.map fun z=> Value.int .u8 z).toArray=((List.range 256).map fun i=> Value.int .u8 (if i=9∨i=10∨i=11∨i=12∨i=13∨i=32 then 1 else 0)).toArray:=by
  have e:Lib.asciiSpaceTab=(List.range 256).map fun i=> (if i=9∨i=10∨i=11∨i=12∨i=13∨i=32 then(1:Int)else 0):=ay
  rw[e,List.map_map];all_goals rfl
 show w.var? Tryz.prog "strings.asciiSpace" =_
 simp only[World.var?,hg,Option.bind_some,h,ht]
theorem ID {G:cK}{H:cG}{q:ByteArray} [Spc H] (hq:q.size<4294967281) (ha:∀b∈q.data.toList,b.toNat<128):SC G Tryz.prog 240 [.string q] H (fun v H'=> ∃s:SV,v=s.val∧H'=Row s eS ((Lib.fields q.data.toList).map un8)::H):=by
 refine⟨ko Tryz.func240 rfl (a8),fun w hw=> ?_⟩
 refine(Tryz.strings_Fields q w hq (fun j b hb=> ha b (Yj hb)) (IZ hw)).mono ?_
 rintro e w' ⟨rfl,rfl⟩
 obtain⟨hS,L,hL,hl⟩:=hw
 refine⟨Row ⟨some ⟨w.heap.size,0,none⟩,(Lib.fields q.data.toList).length,(Lib.fields q.data.toList).length⟩ eS ((Lib.fields q.data.toList).map un8)::H,⟨⟨hS.os,hS.tape,hS.output⟩, [(w.heap.size, .cells ((Lib.fields q.data.toList).map fun l=> Value.string ⟨l.toArray⟩).toArray 9 (0,0))]++L,⟨_,L,rfl, .inr ⟨w.heap.size,_,9,(0,0),rfl,an,Nat.le_refl _,rfl,by simp[eS], .inl rfl,fun j v hv=> ?_⟩,hL⟩,?_⟩,_,rfl,rfl⟩
 ·rw[wZ,List.map_map]at hv
  simpa [un8,Function.comp_def] using hv
 ·have hlt:∀x∈L,x.1<w.heap.size:=fun x hx=> (Array.getElem?_eq_some_iff.1 (hl.at_ x hx)).1
  refine⟨?_,fun x hx=> ?_⟩
  ·simp only[List.map_append,List.map_cons,List.map_nil,Yd,Ye,List.nodup_cons]
   refine⟨fun hm=> ?_,hl.nodup⟩
   obtain⟨x,hx,he⟩:=List.mem_map.1 hm
   have:=hlt x hx
   omega
  ·rcases List.mem_append.1 hx with hx|hx
   ·simp only[List.mem_singleton]at hx;subst hx
    exact Array.getElem?_push_size
   ·have:=hlt x hx
    simp only[World.alloc]
    rw[Array.getElem?_push_lt this,←Array.getElem?_eq_getElem this];exact hl.at_ x hx
def xP:ByteArray:=⟨#[97,32,97,110,32,97,110,100,32,97,114,101,32,97,115,32,97,116,32,98,101,32,98,117,116,32,98,121,32,102,111,114,32,102,114,111,109,32,104,97,115,32,104,101,32,105,102,32,105,110,32,105,110,116,111,32,105,115,32,105,116,32,105,116,115,32,110,111,32,110,111,116,32,111,102,32,111,110,32,111,114,32,115,104,101,32,115,111,32,115,117,99,104,32,116,104,97,116,32,116,104,101,32,116,104,101,105,114,32,116,104,101,110,32,116,104,101,114,101,32,116,104,101,115,101,32,116,104,101,121,32,116,104,105,115,32,116,111,32,119,97,115,32,119,101,32,119,101,114,101,32,119,105,108,108,32,119,105,116,104,32,121,111,117]⟩
theorem A7:∀b∈xP.data.toList,b.toNat<128:=ay
theorem CV:(((Lib.fields xP.data.toList).map fun l=> l.map (·.toNat)).isPerm jh)=true:=ay
theorem xO:jh.Pairwise (fun a b=> ¬b<a):=ay
theorem Fa:(Lib.fields xP.data.toList).length≤1000:=ay
theorem IU {ss:List ByteArray}(hp:ss.Perm ((Lib.fields xP.data.toList).map un8)) (hs:(ss.map cF).Pairwise (fun a b=> ¬b<a)):ss=jH:=by
 have h1:(ss.map cF).Perm jh:=by
  refine(hp.map cF).trans ?_
  rw[List.map_map,show(cF∘un8)=fun l:List UInt8=> l.map (·.toNat)from funext zr]
  exact List.isPerm_iff.1 CV
 have h2:ss.map cF=jh:=List.Perm.eq_of_pairwise (le:=fun a b:List Nat=> ¬b<a) (fun a b _ _ h3 h4=> by
  by_cases e:a=b
  ·exact e
  ·exact absurd (wD h4 e) h3) hs xO h1
 have h3:ss.map cF=jH.map cF:=by rw[h2,ry]
 have h4:=congrArg (List.map dL) h3
 rw[List.map_map,List.map_map,show(dL∘cF)=id from funext gO,List.map_id,List.map_id]at h4
 exact h4
theorem IS {G:cK}:gU G:=by
 intro H hH
 refine sWk Tryz.func221 Tryz.ntmps221 ?_
 refine go ?_
 refine c1_ rfl (ID (q:=xP) (ay) A7) (k:=?_)
 rintro _ _ ⟨s2,rfl,rfl⟩
 refine go ?_
 refine c1_ rfl (Fk G _ _ s2 _ inferInstance (by rw[Yh];have:=Fa;omega)) (k:=?_)
 rintro _ _ ⟨rfl,ss,hp,hso,rfl⟩
 rw[IU hp hso]
 refine gk (k:=rt_ Tryz.results221 (k:=?_))
 exact⟨_,hsb,s2,rfl,rfl⟩
theorem C7 {x:Int}:∀{l:List Int},l.Pairwise (· ≤ ·)→(AF x l).Pairwise (· ≤ ·)
 | [],_=> by simp[AF]
 |y::l,h=> by
  rw[AF]
  obtain⟨h1,h2⟩:=List.pairwise_cons.1 h
  split
  ·rename_i hx
   refine List.pairwise_cons.2 ⟨fun z hz=> ?_,h⟩
   rcases List.mem_cons.1 hz with rfl|hz
   ·exact hx
   ·exact Int.le_trans hx (h1 z hz)
  ·rename_i hx
   refine List.pairwise_cons.2 ⟨fun z hz=> ?_,C7 h2⟩
   rcases List.mem_cons.1 ((qT x l).mem_iff.1 hz)with rfl|hz
   ·omega
   ·exact h1 z hz
theorem xU:∀l:List Int,(gK l).Pairwise (· ≤ ·)
 | []=> by simp[gK]
 |x::l=> C7 (xU l)
theorem xV (l:List Int):(l.mergeSort fun x y=> decide (x≤y))=gK l:=by
 have h:(l.mergeSort fun x y=> decide (x≤y)).Pairwise fun x y=> decide (x≤y)=true:=
  List.pairwise_mergeSort (le:=fun x y=> decide (x≤y)) (fun a b c h1 h2=> by simp only[decide_eq_true_eq]at h1 h2⊢;omega) (fun a b=> by simp only[Bool.or_eq_true,decide_eq_true_eq];omega) l
 exact List.Perm.eq_of_pairwise (le:=(· ≤ ·)) (fun a b _ _ h1 h2=> Int.le_antisymm h1 h2) (h.imp fun{a b} hab=> Yt hab) (xU l) ((List.mergeSort_perm _ _).trans (kj l).symm)
theorem vT (x:Int):∀l:List Int,j8 (l++ [x])=if l.getLast? =some x then j8 l else j8 l++ [x]
 | []=> rfl
 | [a]=> by
  show j8 [a,x]=if some a=some x then [a]else [a,x]
  rw[j8]
  by_cases h:a=x
  ·subst h;rw[if_pos rfl,if_pos rfl];all_goals rfl
  ·rw[if_neg h,if_neg (aY)];all_goals rfl
 |a::b::l=> by
  have ih:=vT x (b::l)
  rw[List.getLast?_cons_cons]
  show j8 (a::b::(l++ [x]))=_
  rw[j8,show b::(l++ [x])=(b::l)++ [x]from rfl,ih,j8]
  by_cases h:a=b
  ·rw[if_pos h,if_pos h]
  ·rw[if_neg h,if_neg h]
   split <;> rfl
theorem zk (xs:List Int):∀m,m≤xs.length→Lib.compactUpTo xs.toArray m=j8 (xs.take m)
 | 0,_=> rfl
 |m+1,h=> by
  have hm:xs[m]? =some xs[m]:=Yi (aa)
  rw[Lib.compactUpTo_succ,zk xs m (aa),cP hm,vT]
  have e1:xs.toArray[m]! =xs[m]:=by simp[getElem!_pos,show m<xs.length from aa]
  rcases m with _|k
  ·rw[if_pos (Lib.keeps_lt_one _ 0 (aa)),e1];all_goals rfl
  ·have e2:xs.toArray[k]! =xs[k]:=by simp[getElem!_pos,show k<xs.length from aa]
   have e3:(xs.take (k+1)).getLast? =some xs[k]:=by
    rw[List.getLast?_eq_getElem?,Yg,show min (k+1) xs.length - 1=k from aa,List.getElem?_take,if_pos (aa),Yi (aa)]
   rw[e3,e1]
   by_cases hk:xs[k]=xs[k+1]
   ·rw[Lib.keeps_neg (aa) (by rw[e1,show k+1 - 1=k from rfl,e2,hk]),if_pos (show some xs[k]=some xs[k+1]from by rw[hk])]
    simp
   ·rw[Lib.keeps_pos (by rw[e1,show k+1 - 1=k from rfl,e2];exact fun h9=> hk h9.symm),if_neg (show ¬some xs[k]=some xs[k+1]from by simpa using hk)]
    simp
theorem zl (xs:List Int):Lib.compact xs=j8 xs:=by
 rw[Lib.compact,zk xs xs.length (Nat.le_refl _),List.take_length]
theorem x6:∀ss:List Int,eI.all ss=ss.map (Value.int .i64)
 | []=> rfl
 |q::r=> by show Value.int .i64 q::eI.all r=_;rw[x6 r];all_goals rfl
theorem vC {w:World}{b:Nat}{C:Array Value}{E:TypeId}{fz:Nat×Nat}{xs:List Int}(hb:w.heap[b]? =some (.cells C E fz)) (hf:Okf C.size fz) (h7:∀(j:Nat) (v:Value),(eI.all xs)[j]? =some v→C[j]? =some v):Go.Sort.Holds (Value.int .i64) w b 0 xs.toArray:=by
 intro j hj
 have hj2:j<xs.length:=by simpa using hj
 have hC:C[j]? =some (.int .i64 xs[j]):=h7 j _ (by rw[x6,Xd,Yi hj2];all_goals rfl)
 have hjC:=(Array.getElem?_eq_some_iff.1 hC).1
 constructor
 ·simp only[World.cell?,hb,Nat.zero_add]
  simp[hC,hj2]
 ·simp only[World.frozen?,hb,Nat.zero_add]
  have:=hf.free j hjC
  simp only[Bool.and_eq_false_iff,decide_eq_false_iff_not]
  omega
theorem BP {w:World}{n:Nat}{os:Array Obj}{b:Nat}{C:Array Value}{E:TypeId}{fz:Nat×Nat}{ys:List Int}{L2:nf}(hb:w.heap[b]? =some (.cells C E fz)) (hl:jc w ([(b, .cells C E fz)]++L2)):jc (Go.Sort.grow (Go.Sort.putRow (Value.int .i64) (Go.Sort.ahead w n) b 0 ys.toArray) os) ([(b, .cells (Go.Sort.putCells (Value.int .i64) 0 ys.toArray C) E fz)]++L2):=by
 have hbl:b<w.heap.size:=(Array.getElem?_eq_some_iff.1 hb).1
 have hnd:=hl.nodup
 simp only[List.map_append,List.map_cons,List.map_nil,Yd,Ye,List.nodup_cons]at hnd
 refine⟨by simpa using hnd,fun x hx=> ?_⟩
 rcases List.mem_cons.1 hx with rfl|hx
 ·simp only[Go.Sort.grow,Go.Sort.putRow,Go.Sort.mapBlock,Go.Sort.ahead]
  rw[Array.getElem?_append_left (by simpa using hbl),Array.getElem?_modify,if_pos rfl,hb];all_goals rfl
 ·have hx:x∈L2:=hx
  have hxb:b≠x.1:=fun h=> hnd.1 (h ▸ List.mem_map_of_mem hx)
  have hx2:=hl.at_ x (Yx _ hx)
  have hxl:=(Array.getElem?_eq_some_iff.1 hx2).1
  simp only[Go.Sort.grow,Go.Sort.putRow,Go.Sort.mapBlock,Go.Sort.ahead]
  rw[Array.getElem?_append_left (by simpa using hxl),Array.getElem?_modify,if_neg hxb,hx2]
theorem FE {C:Array Value}{ys:List Int}{j:Nat}{v:Value}(hl:ys.length≤C.size) (h:(eI.all ys)[j]? =some v):(Go.Sort.putCells (Value.int .i64) 0 ys.toArray C)[j]? =some v:=by
 rw[x6,Xd]at h
 cases hm:ys[j]? with
 |none=> rw[hm]at h;cases h
 |some q=>
  rw[hm]at h
  obtain rfl:=Option.some.inj h
  have hjl:=(Yk.1 hm).1
  have hq:=(Yk.1 hm).2
  have hjC:j<C.size:=aa
  simp[Go.Sort.putCells,hjC,hjl,hq]
theorem J0:jS:=by
 intro G H R s xs hr hn
 refine⟨ko Tryz.func166 rfl (a8),fun w hw=> ?_⟩
 obtain⟨hS,L,hL,hl⟩:=hw
 obtain⟨L',hp,L1,L2,rfl,hRow,hR⟩:=hr.out L hL
 have hl':=qQ hp hl
 rcases hRow with⟨rfl,rfl,rfl⟩|⟨b,C,E,fz,h1,h2,h3,rfl,h5,hf,h7⟩
 ·refine(Tryz.slices_Sort_int_none none 0 w).mono ?_
  rintro e w' ⟨rfl,rfl⟩
  exact⟨Row SV.nil eI []::R,⟨hS,L2,⟨[],L2,rfl, .inl ⟨rfl,rfl,rfl⟩,hR⟩,by simpa using hl'⟩,rfl,rfl⟩
 ·have hb:w.heap[b]? =some (.cells C E fz):=hl'.at_ (b, .cells C E fz) (an)
  have hbl:b<w.heap.size:=(Array.getElem?_eq_some_iff.1 hb).1
  have hv: [s.val].toArray= #[Value.slice (some ⟨b,0,none⟩) xs.length s.c]:=by
   simp only[SV.val,h1,h2]
  rw[hv]
  refine(Tryz.slices_Sort_int b 0 s.c xs w (vC hb hf h7) hbl (aa)).mono ?_
  rintro e w' ⟨rfl,n,os,rfl⟩
  rw[xV]
  have hsl:(gK xs).length=xs.length:=(kj xs).length_eq
  have h5':C.size=s.c:=by rw[h5];exact Nat.mul_one _
  refine⟨Row s eI (gK xs)::R,⟨⟨hS.os,hS.tape,hS.output⟩, [(b, .cells (Go.Sort.putCells (Value.int .i64) 0 (gK xs).toArray C) E fz)]++L2,⟨_,L2,rfl, .inr ⟨b,_,E,fz,h1,by rw[hsl];exact h2,h3,rfl,by simp[Go.Sort.putCells,h5],by simpa [Go.Sort.putCells] using hf,fun j v hv=> FE (aa) hv⟩,hR⟩,BP hb hl'⟩,rfl,rfl⟩
theorem Bd:fg:=by
 intro G H R s xs hr hn
 refine⟨ko Tryz.func168 rfl (a8),fun w hw=> ?_⟩
 obtain⟨hS,L,hL,hl⟩:=hw
 obtain⟨L',hp,L1,L2,rfl,hRow,hR⟩:=hr.out L hL
 have hl':=qQ hp hl
 rcases hRow with⟨rfl,rfl,rfl⟩|⟨b,C,E,fz,h1,h2,h3,rfl,h5,hf,h7⟩
 ·refine(Tryz.slices_Compact_int_empty none 0 w).mono ?_
  rintro e w' ⟨rfl,rfl⟩
  exact⟨Row SV.nil eI []::R,⟨hS,L2,⟨[],L2,rfl, .inl ⟨rfl,rfl,rfl⟩,hR⟩,by simpa using hl'⟩,SV.nil,rfl,rfl⟩
 ·have hb:w.heap[b]? =some (.cells C E fz):=hl'.at_ (b, .cells C E fz) (an)
  have hv: [s.val].toArray= #[Value.slice (some ⟨b,0,none⟩) xs.length s.c]:=by
   simp only[SV.val,h1,h2]
  rw[hv]
  refine(Tryz.slices_Compact_int b 0 s.c xs w (vC hb hf h7) (aa) (aa)).mono ?_
  rintro e w' ⟨rfl,q,rfl⟩
  rw[zl]
  have hdl:=uy xs
  have h5':C.size=s.c:=by rw[h5];exact Nat.mul_one _
  refine⟨Row ⟨some ⟨b,0,none⟩,(j8 xs).length,s.c⟩ eI (j8 xs)::R,⟨⟨hS.os,hS.tape,hS.output⟩, [(b, .cells (Go.Sort.putCells (Value.int .i64) 0 (j8 xs++List.replicate (xs.length - (j8 xs).length) 0).toArray C) E fz)]++L2,⟨_,L2,rfl, .inr ⟨b,_,E,fz,rfl,rfl,by show(j8 xs).length≤s.c;omega,rfl,by simp[Go.Sort.putCells,h5],by simpa [Go.Sort.putCells] using hf,fun j v hv=> FE (by rw[Ya,Xe];omega) (by
   rw[x6,Xd]at hv⊢
   cases hm:(j8 xs)[j]? with
   |none=> rw[hm]at hv;cases hv
   |some z=> rw[Yv (Yk.1 hm).1,hm];rw[hm]at hv;exact hv)⟩,hR⟩,?_⟩,⟨some ⟨b,0,none⟩,(j8 xs).length,s.c⟩,rfl,rfl⟩
  have:=BP (n:=q) (os:= #[]) (ys:=j8 xs++List.replicate (xs.length - (j8 xs).length) 0) hb hl'
  rw[Go.Sort.grow_empty]at this
  exact this
theorem F6 {G:cK}{H:cG}{i:Int}{s:ByteArray}:SC G Tryz.prog 44 [.int .i64 i, .string s] H (fun v H'=> ∃sv:SV,v= .agg [.int .i64 i,sv.val].toArray∧H'=Row sv eVl [(⟨#[116]⟩,s)]::H):=by
 refine sWk Tryz.func44 Tryz.ntmps44 ?_
 refine gk (k:=alc (k:=fun b4=>?_))
 refine on_ (qn_ (ws_ (wr_ (e_ mv (k:=e_ mv (k:=e_ (bld [(0,_),(1,_)]) (k:=gz eVl (k:=fun s8=>?_))))))))
 refine e_ (bld [(0,_),(1,_)]) (k:=gk (k:=rt_ Tryz.results44 (k:=?_)))
 exact⟨_,hsb,s8,rfl,rfl⟩
section
variable {G:cK}{P:Program}{t:Tm}{H:cG}{dst:Option Tmp}{ty:TypeId}{pos:String}{after:Array Edge}{g:Option (Nat×Bool)}
theorem D0 {T E:TypeId}{sz bb:Nat}{z:Value}{v1 v2 v3:Value}{x1 x2 x3:Operand}{α:Type}(e:Enc α) {y1 y2 y3:α} [hT:Und P T (.slice E)] [hE:Inf P E sz bb z] (hx1:evo t x1=some v1) (hx2:evo t x2=some v2) (hx3:evo t x3=some v3) [hv1:fK e v1 y1] [hv2:fK e v2 y2] [hv3:fK e v3 y3] (hsz:sz=e.sz):
 St G P ⟨dst, .buildSlice T 3 #[(0,x1),(1,x2),(2,x3)],ty,pos,after,g⟩ t H (fun u H'=> ∃s:SV,u=s.val∧H'=Row s e [y1,y2,y3]::H):=by
 subst hsz
 exact dC e [y1,y2,y3] (by simp only[rY,Enc.parts,hx1,hx2,hx3,hv1.out,hv2.out,hv3.out]) rfl (cv)
end
theorem Pa {H:cG}{i j k:Int}{a b c:SV}{x y z:List Val}(h1:Sl H a eVl x) (h2:Sl H b eVl y) (h3:Sl H c eVl z):ga H [(i,a),(j,b),(k,c)] [(i,x),(j,y),(k,z)]:=
 ⟨rfl,fun n p q hp hq=> by
   match n,hp,hq with
   | 0,hp,hq=> cases hp;cases hq;exact⟨rfl,h1⟩
   | 1,hp,hq=> cases hp;cases hq;exact⟨rfl,h2⟩
   | 2,hp,hq=> cases hp;cases hq;exact⟨rfl,h3⟩
   |n+3,hp,_=> cases hp⟩
theorem lV:dsz fxD≤30000000∧(eE fxF fxD).length≤2000000:=ay
theorem M5 {G:cK}{H:cG} [hg:Glb G H] [Tab H 27 lg] [Tab H 25 jP] [Spc H] (hT:gU G) (hS:lz):SC G Tryz.prog 21 [] H (fun v H'=> ∃(pt:PtA) (F:cG),dq F pt fxQ∧v= .pointer (some ⟨pt.p,0,none⟩)∧H'=fB F::H):=by
 have hok:=mZ AT lV.1 lV.2
 haveI hnil:∀H9,Sl H9 SV.nil eI []:=fun H9=> ⟨fun L hL=> ⟨rfl,Nat.le_refl _, .inl ⟨rfl,rfl⟩⟩⟩
 refine sWk Tryz.func21 Tryz.ntmps21 ?_
 refine ws_ (wr_ (e_ asn (k:=on_ (qn_ (ws_ (wr_ (e_ (bld [(0,_),(1,_)]) (k:=gz eF (k:=fun s3=>?_)))))))))
 refine e_ (bld [(0,_)]) (k:=alc (k:=fun b1=>?_))
 refine go ?_
 refine df cI (fun i=> [1,2,3,4,6].contains i) (fun k H=> (k=0→cQ H b1 [s3.val])) (?_)
 refine cE 0 rfl rfl (a8) rfl (cD fun H hH=>cw) (?_)
 refine cN 1 rfl (a8) rfl (fun k hk=> fun hi=> ab) (cW (vs:= [_,_]) rfl (F6)) ?_
 rintro _ _ ⟨sv1,rfl,rfl⟩
 refine cN 2 rfl (a8) rfl (fun k hk=> fun hi=> ab) (cW (vs:= [_,_]) rfl (F6)) ?_
 rintro _ _ ⟨sv2,rfl,rfl⟩
 refine cN 3 rfl (a8) rfl (fun k hk=> fun hi=> ab) (cW (vs:= [_,_]) rfl (F6)) ?_
 rintro _ _ ⟨sv3,rfl,rfl⟩
 refine cN 4 rfl (a8) rfl (fun k hk=> fun hi=> ab) (D0 eD rfl rfl rfl rfl) ?_
 rintro _ _ ⟨s9,rfl,rfl⟩
 refine af_ 5 (q:=cD fun H hH=>bld [(0,_)]) (k:=?_)
 refine cN 6 rfl (a8) rfl (fun k hk=> fun hi=> ab) (cW (vs:= [_,_]) rfl (KP (fv:=s3) (dv:=s9) (xv:=SV.nil) (fs:=fxF) (ds:=fxD) (dead:= []) (l:= [(0,sv1),(1,sv2),(2,sv3)]) hT hS (Pa inferInstance inferInstance inferInstance) AT lV.1 lV.2 (y6 hok) (ag))) ?_
 rintro _ _ ⟨pt,ws,F,hdo,hpt,rfl,rfl⟩
 refine af_ 7 (q:=cD fun H hH=>asn) (k:=db (a8) (fun k hk=> fun hi=> absurd hk (ad)) (gk (k:=rt_ Tryz.results21 (k:=?_))))
 exact⟨_,hsb,pt,F,by have h9:=hdo.2.2 rfl;rw[h9]at hpt;exact hpt,rfl,rfl⟩
theorem Ln:xj fxP fxQ 100:=by
 have h1:∀ps∈iQ fxP fxQ,dg ps≤100:=ay
 refine⟨⟨ag,ag,ag,ag,ag,an,ag,ag⟩,mZ AT lV.1 lV.2,⟨ag,ag,ag,fun x hx=> by simp at hx;omega⟩,h1,an,ag,an⟩
theorem LR {G:cK}{H:cG} [hg:Glb G H] [hia:Isa H] [Tab H 27 lg] [Tab H 25 jP] [Spc H] (hT:gU G) (hS:lz) (hSI:jS) (hCI:fg):SC G Tryz.prog 5 [] H (fun v H'=> v= .bool true∧H'=H):=by
 obtain⟨r1,r2,r3,r4⟩:=Np
 refine sWk Tryz.func5 Tryz.ntmps5 ?_
 refine go ?_
 refine c0_ rfl (M5 hT hS) (k:=?_)
 rintro _ _ ⟨pt,F,hpt,rfl,rfl⟩
 haveI hpt':∀H9,dq (fB F::H9) pt fxQ:=fun H9=> hpt.less lG
 refine e_ asn (k:=on_ (qn_ (ws_ (ws_ (wr_ (e_ mv (k:=?_)))))))
 refine e_ (dU rfl) (k:=?_)
 refine gk (k:=wi_ (k:=fun h1=>?_) (m:=fun h1=>?_))
 ·exact absurd h1 (an)
 refine gk (k:=gz eI (k:=fun s9=>?_))
 refine e_ (bld [(0,_),(1,_)]) (k:=gz eLf (k:=fun s11=>?_))
 refine gz eI (k:=fun s12=>?_)
 refine s_ (qI eB rfl rfl rfl rfl rfl) (k:=?_)
 rintro _ _ ⟨s13,rfl,rfl⟩
 refine e_ (bld [(0,_),(1,_),(4,_),(5,_)]) (k:=alc (k:=fun b2=>?_))
 refine sto (k:=on_ (qn_ (ws_ (wr_ (?_)))))
 haveI hn1:∀H9,Sl H9 SV.nil eNr []:=fun H9=> ⟨fun L hL=> ⟨rfl,Nat.le_refl _, .inl ⟨rfl,rfl⟩⟩⟩
 haveI hn2:∀H9,gE (Row s13 eB [4,0,1,0]::Row s12 eI [0]::Row s11 eLf [(0,⟨#[97]⟩)]::Row s9 eI [1]::H9) ⟨s9,s11,SV.nil,s12,s13, []⟩ fxP:=fun H9=> ⟨inferInstance,inferInstance,inferInstance,⟨rfl,fun i z n hz=> by cases hz⟩,inferInstance⟩
 haveI hn3:∀H9,qA (Row s13 eB [4,0,1,0]::H9) ⟨s9,s11,SV.nil,s12,s13, []⟩ fxP:=fun H9=> ⟨inferInstance⟩
 refine go ?_
 refine c2_ rfl (BB (a:=⟨s9,s11,SV.nil,s12,s13, []⟩) (p:=fxP) (pt:=pt) (q:=fxQ) Ln) (k:=?_)
 rintro _ _ (⟨e,hne,he,rfl,rfl⟩|⟨ins,m,a',sc,u,bs,F2,hnw,hbl,hmf,rfl,rfl⟩)
 ·rw[wL]at hne;cases hne
 refine e_ mv (k:=e_ exr (k:=e_ exr (k:=e_ asn (k:=e_ asn (k:=on_ (qn_ (ws_ (ws_ (wr_ (e_ mv (k:=?_)))))))))))
 refine e_ (cM rfl) (k:=?_)
 refine e_ mv (k:=eg_ mv (k:=?_))
 refine eg_ (dU rfl) (k:=?_)
 refine gk (k:=wi_ (k:=fun h2=>?_) (m:=fun h2=>?_))
 ·exact absurd h2 (an)
 refine go ?_
 refine c3_ rfl (Iw (a:=⟨s9,s11,SV.nil,s12,s13, []⟩) (p:=fxP) (pt:=pt) (q:=fxQ) (fu:=4) hSI hCI Ln) (k:=?_)
 rintro _ _ (⟨e,hne,he,rfl,rfl⟩|⟨ins2,hnw2,(⟨hlt,rfl,rfl⟩|⟨hge,sh,rfl,rfl⟩)⟩)
 ·rw[wL]at hne;cases hne
 ·rw[wL]at hnw2;cases hnw2;have r5:(dK fxP fxQ fxI).2.steps=4:=r2;rw[r5]at hlt;exact absurd hlt (ag)
 rw[wL]at hnw2
 cases hnw2
 refine gk (k:=alc (k:=fun b5=>?_))
 refine sto (k:=e_ asn (k:=on_ (qn_ (ws_ (wr_ (e_ mv (k:=?_)))))))
 refine e_ (fy rfl) (k:=?_)
 refine e_ mv (k:=eg_ lds (k:=eg_ (bld [(0,_),(1,_)]) (k:=eg_ (bld [(0,_),(1,_)]) (k:=?_))))
 refine sg_ (dC rb [(0,409),(2,465)] (bQ) rfl (ay)) (k:=?_)
 rintro _ _ ⟨s39,rfl,rfl⟩
 refine eg_ (bld [(0,_),(1,_),(2,_),(3,_)]) (k:=?_)
 refine sg_ (cW (vs:= [_,_]) rfl (By (xs:=(dK fxP fxQ fxI).1) (ys:= [(0,409),(2,465)]) (by rw[show(dK fxP fxQ fxI).1=_ from r1];decide))) (k:=?_)
 rintro _ _ ⟨rfl,rfl⟩
 refine gk (k:=rt_ Tryz.results5 (k:=?_))
 refine⟨_,hsb,?_,rfl⟩
 have e1:(dK fxP fxQ fxI).1= [(0,409),(2,465)]:=r1
 have e2:(dK fxP fxQ fxI).2.steps=4:=r2
 have e3:kX (dK fxP fxQ fxI).2=3:=r3
 have e4:(dK fxP fxQ fxI).2.visits=2:=r4
 rw[e1,e2,e3,e4]
 all_goals rfl
section
variable {G:cK}{H:cG}{a:PrA}{p:PrG}{pt:PtA}{q:PtD}{T:Nat}{fu:Int}{ins:List Ins}
end
section
variable {G:cK}{H R:cG}{m T:Nat}{x:MX}{s:MS}{p:PrG}{q:PtD}{ins:List Ins}{pss:List (List Po)}{tb:Hs}{z:Hit}
end
structure I0 (p:PrG) (fs:List FV) (ps:List ja):Prop where
 pl:ps.length≤1000000000
 sm:∀d∈ps,SmP fs d
 fl:fs.length≤1000000
 fn:∀f∈fs,f.name.size≤1000000000
 pq:∀d∈ps,∀ws,rX fs ps=true→Ba d.1.length d.2 ws→∃T,xj p ⟨fs,d.1,ws⟩ T
theorem rise_two {x y:Int}{l:List Int}(h:rise (x::y::l)=true):x<y∧rise (y::l)=true:=by
 rw[rise]at h
 simp only[Bool.and_eq_true,decide_eq_true_eq]at h
 exact h
theorem rise_mem_lt:∀{l:List Int}{x:Int},rise (x::l)=true→∀y∈l,x<y
 |z::l,x,h,y,hy=> by
  obtain⟨h1,h2⟩:=rise_two h
  rcases List.mem_cons.1 hy with rfl|hy
  ·exact h1
  ·have:=rise_mem_lt h2 y hy
   omega
theorem rise_getD:∀{l:List Int},rise l=true→∀i j:Nat,i<j→j<l.length→l.getD i 0<l.getD j 0
 | [x],_,i,j,hij,hj=> by simp at hj;omega
 |x::y::l,h,0,j+1,_,hj=> by
  have h1:(y::l)[j]? =some ((y::l).getD j 0):=by
   have hj':j<(y::l).length:=by simpa using hj
   rw[List.getD_eq_getElem?_getD,Yi hj']
   all_goals rfl
  have:=rise_mem_lt h _ (Yj h1)
  simpa using this
 |x::y::l,h,i+1,j+1,hij,hj=> by
  have hj9:j<(y::l).length:=by simpa using hj
  have:=rise_getD (rise_two h).2 i j (aa) hj9
  simpa using this
theorem run_end {p:PrG}{q:PtD}{T:Nat}{ins:List Ins}(hk:xj p q T) (hn:nv p q= .ok ins):
 (dK p q ins).2.visits≤(liveC (cS p q ins)).length∧(dK p q ins).1.length≤(dK p q ins).2.visits∧(dK p q ins).2.visits≤(dK p q ins).2.steps∧(dK p q ins).2.steps≤(dK p q ins).2.visits*ins.length∧kX (dK p q ins).2≤((iQ p q).map fun ps=> 2*ps.length+dg ps+1).sum∧HitsIn ((liveC (cS p q ins)).map fun d=> (q.ds.map (·.1)).getD d 0) (dK p q ins).1:=by
 obtain⟨⟨tb,hro⟩,hms0⟩:=Fw (x:=⟨⟨SV.nil,SV.nil,SV.nil,SV.nil,SV.nil, []⟩,p.all,SV.nil,⟨0,0,0,0,SV.nil,SV.nil,SV.nil,SV.nil,SV.nil,SV.nil,SV.nil,0, [], []⟩,SV.nil,List.replicate p.curs.length 0⟩) hk hn rfl Xe
 have h0:=(xf hro.dr hro.few ((cS p q ins).ids.length+1) _ hms0).1
 have h1i:1≤(cS p q ins).ins.length:=hro.gp.ne
 obtain⟨h1,h2,h3⟩:=all_end hro.dr hro.few h1i ((cS p q ins).ids.length+1) _ hms0 (start_end (iQ p q))
 refine⟨Xi h1.vis (lvC_le _ _),?_,h1.min,h0.stp,moves_le h0.cs,?_⟩
 ·have:(lh (iQ p q)).visits=0:=rfl
  rw[this,Nat.zero_add]at h2
  exact h2
 ·have h4:=hits_in (c:=cS p q ins) (rise_getD hk.seg.up) h3
  rw[show(lh (iQ p q)).pl= -1 from rfl,liveF_all]at h4
  exact h4
section
variable {G:cK}{P:Program}{t:Tm}{H:cG}{dst:Option Tmp}{ty:TypeId}{pos:String}{after:Array Edge}{g:Option (Nat×Bool)}
theorem ev_eql_slG {T E U:TypeId}{x:Operand}{s:SV} [hT:Und P T (.slice E)] (hx:evo t x=some s.val):Ev G P ⟨dst, .binOp .eql T x (.const (.slice none 0 0)) U,ty,pos,after,g⟩ t H (.bool s.a.isNone):=
 fun ρ hρ w hw=> by
  have h1:=fU (P:=P) (op:= .eql) (T:=T) (x:=x) (y:= .const (.slice none 0 0)) (w:=w) (a:=s.val) (b:= .slice none 0 0) (.inr rfl) (fun c h=> aW)
  have h2:=iO (P:=P) (w:=w) (T:=T) (x:=s.val) (y:= .slice none 0 0) (r:=s.a.isNone) (fun d=> by
   obtain⟨a,n,c⟩:=s
   cases a <;> simp only[SV.val,Op.equalIn,Sem.run_bind,da (T:=T),Result.andThen_ok,Sem.run_pure,Option.isNone_none,Option.isNone_some])
  have h5:(binOp .eql T s.val (.slice none 0 0)).run P w= .ok (.bool s.a.isNone) w:=by
   simp only[SV.val]at h2⊢
   simp only[binOp,Sem.run_bind,h2,Result.andThen_ok,Sem.run_pure]
  simp only[execOp,hρ _ _ hx,hρ (.const (.slice none 0 0)) _ rfl,Sem.run_bind,h1,Result.andThen_ok,h5,Sem.run_pure]
end
theorem cloneV {G:cK}{H:cG}{s:SV}{vs:List Val} [hs:Sl H s eVl vs] (hn:vs.length≤1000000000):SC G Tryz.prog 59 [s.val] H (fun v H'=> ∃(s':SV) (vs':List Val),v=s'.val∧H'=Row s' eVl vs'::H):=by
 refine sWk Tryz.func59 Tryz.ntmps59 ?_
 refine ws_ (wr_ (e_ asn (k:=on_ (qn_ (ws_ (ws_ (wr_ (e_ mv (k:=?_)))))))))
 refine e_ (ev_eql_slG rfl) (k:=?_)
 refine gk (k:=wi_ (k:=fun h1=>?_) (m:=fun h1=>?_))
 ·refine gk (k:=rt_ Tryz.results59 (k:=?_))
  exact⟨_,cJ.nilRow cJ.refl,SV.nil, [],rfl,rfl⟩
 refine go ?_
 refine s_ (iN eVl rfl) (k:=?_)
 rintro _ _ ⟨s5,rfl,rfl⟩
 refine gk (k:=app (k:=fun s7=>?_))
 refine gk (k:=rt_ Tryz.results59 (k:=?_))
 exact⟨_,hsb,s7,_,rfl,rfl⟩
theorem tStoredP {G:cK}{H:cG}{a:PtA}{q:PtD}{d:Nat}{x:Doc} [hp:dq H a q] (hx:q.ds[d]? =some x) (hv:x.2.length≤1000000000):SC G Tryz.prog 26 [.pointer (some ⟨a.g,0,none⟩), .int .i64 ((d:Nat):Int)] H (fun v H'=> ∃(s':SV) (vs':List Val),v= .tuple #[.agg [.int .i64 x.1,s'.val].toArray, .bool true]∧H'=Row s' eVl vs'::H):=by
 have hl:=uu (a:=a) (q:=q) (H:=H)
 have hxl:=(Yk.1 hx).1
 obtain⟨z,hz⟩:∃z,a.l[d]? =some z:=⟨_,Yi (aa)⟩
 obtain⟨hz1,hz2⟩:=hp.docs.2 d z x hz hx
 refine sWk Tryz.func26 Tryz.ntmps26 ?_
 refine gk (k:=alc (k:=fun b4=>?_))
 refine go ?_
 refine d2_ rfl (EZ (a:=a)) (k:=gk (k:=wi_ (k:=fun h1=>?_) (m:=fun h1=>?_)))
 ·have h9:=h1
  exact absurd h9 (aM)
 refine wk_ (qn_ (ws_ (wr_ (e_ mv (k:=e_ nck (k:=e_ fla (k:=e_ ldv (k:=e_ mv (k:=e_ ixa (k:=e_ (jn (hy:=hz)) (k:=alc (k:=fun b6=>?_))))))))))))
 refine go ?_
 refine df cI (fun i=> [4,6].contains i) (fun k H=> (k=1→cQ H b6 [.int .i64 z.1,z.2.val])∧(k=3→cQ H b6 [.int .i64 z.1,z.2.val])) (af_ 0 (q:=cD fun H hH=>fla) (k:=?_))
 refine cE 1 rfl rfl (a8) rfl (cD fun H hH=>ak) (?_)
 refine af_ 2 (q:=cD fun H hH=>fla) (k:=?_)
 refine cE 3 rfl rfl (a8) rfl (cD fun H hH=>aE) (?_)
 refine cN 4 rfl (a8) rfl (fun k hk=> ⟨fun hi=> ab,fun hi=> ab⟩) (cW (vs:= [_]) rfl (cloneV (s:=z.2) (vs:=x.2) hv)) ?_
 rintro _ _ ⟨s23,vs23,rfl,rfl⟩
 refine af_ 5 (q:=cD fun H hH=>bld [(0,_),(1,_)]) (k:=?_)
 refine cN 6 rfl (a8) rfl (fun k hk=> ⟨fun hi=> ab,fun hi=> absurd hk (ad)⟩) (dM rfl rfl rfl) ?_
 rintro _ _ ⟨rfl,rfl⟩
 refine af_ 7 (q:=cD fun H hH=>asn) (k:=db (a8) (fun k hk=> ⟨fun hi=> absurd hk (ad),fun hi=> absurd hk (ad)⟩) (gk (k:=rt_ Tryz.results26 (k:=?_))))
 exact⟨_,hsb,s23,vs23,by rw[←hz1];all_goals rfl,rfl⟩
theorem live_take {q:PtD}{i:Nat}(hi:i<q.ds.length):(((List.range q.ds.length).take (i+1)).filter fun d=> !oG q.dw d)=(((List.range q.ds.length).take i).filter fun d=> !oG q.dw d)++(if oG q.dw i=true then []else [i]):=by
 rw[cP (l:=List.range q.ds.length) (i:=i) (x:=i) (by rw[List.getElem?_range hi]),List.filter_append]
 cases h:oG q.dw i <;> simp[h]
theorem id_at {q:PtD}{i:Nat}{x:Doc}(hx:q.ds[i]? =some x):idQ q i=x.1:=by
 rw[idQ,List.getD_eq_getElem?_getD,Xd,hx];all_goals rfl
theorem tLiveDocs {G:cK}{H:cG}{a:PtA}{q:PtD} [hp:dq H a q] (hq:Bj q) (hv:∀d∈q.ds,d.2.length≤1000000000):SC G Tryz.prog 8 [.pointer (some ⟨a.p,0,none⟩)] H (fun v H'=> ∃(s:SV) (zs:List DG),v=s.val∧zs.map (·.d)=(liveQ q).map (idQ q)∧H'=Row s eD (zs.map dgV)::Cl dgH zs::H):=by
 have hqn:=hq.n
 refine sWk Tryz.func8 Tryz.ntmps8 ?_
 refine go ?_
 refine go ?_
 refine d1_ rfl (Md (a:=a)) (k:=?_)
 refine du (cJ.nilRow (e:=eD) (fe (f:=dgH) cJ.refl)) ?_
 rw[show Row SV.nil eD ([]:List (Int×SV))=Row SV.nil eD (([]:List DG).map dgV)from rfl]
 refine gk (k:=dt (Nat×SV×(List DG)) (fun y=> y.1≤q.ds.length∧y.2.2.length≤y.1∧y.2.2.map (·.d)=(((List.range q.ds.length).take y.1).filter fun d=> !oG q.dw d).map (idQ q)) (fun y=> [(3,y.2.1.val),(12, .int .i64 ((y.1:Nat):Int))]) [(0,_),(11,_)] (fun y=> [Row y.2.1 eD (y.2.2.map dgV),Cl dgH y.2.2]) _ (fun y=> q.ds.length - y.1) ((0,SV.nil, [])) (h0:=?_) (k:=?_))
 ·try dsimp only
  exact⟨Yl _,Nat.le_refl _,rfl⟩
 rintro⟨i,u,zs⟩ ⟨hi,hzl,hzm⟩
 try dsimp only[Yd,Ye]at*
 refine gk (k:=wi_ (k:=fun h1=>?_) (m:=fun h1=>?_))
 ·have hil:i<q.ds.length:=by have h9:=h1;omega
  obtain⟨x,hx⟩:∃x,q.ds[i]? =some x:=⟨_,Yi hil⟩
  have hvx:=hv x (Yj hx)
  have hlt:=live_take hil
  have hid:=id_at hx
  have hzn:(zs.map dgV).length≤i:=by rw[Yh];exact hzl
  refine go ?_
  refine go ?_
  refine c2_ rfl (tStoredP (a:=a) hx hvx) (k:=?_)
  rintro _ _ ⟨s21,vs21,rfl,rfl⟩
  refine gk (k:=alc (k:=fun b5=>?_))
  refine go ?_
  refine sg_ (cW (vs:= [_,_]) rfl (Mh (a:=a) (q:=q) hq)) (k:=?_)
  rintro _ _ ⟨rfl,rfl⟩
  refine gk (k:=wi_ (k:=fun h2=>?_) (m:=fun h2=>?_))
  ·have hb:oG q.dw i=false:=by have h9:=h2;simpa [hil] using h9
   rw[hb]at hlt;simp only[Bool.false_eq_true,if_false]at hlt
   refine gk (k:=gz eD (k:=fun s32=>?_))
   refine app (k:=fun s33=>?_)
   rw[show zs.map dgV++ [(x.1,s21)]=(zs++ [(⟨x.1,s21,vs21⟩:DG)]).map dgV from by simp[dgV]]
   refine du (cJ.trans (H':=Row s21 eVl vs21::Cl dgH zs::Row s33 eD ((zs++ [(⟨x.1,s21,vs21⟩:DG)]).map dgV)::H) (hsb) (Cr ⟨x.1,s21,vs21⟩)) ?_
   refine go ?_
   refine ln_ ((i+1,s33,zs++ [⟨x.1,s21,vs21⟩])) (k:=?_)
   try dsimp only
   refine⟨aa,by rw[Ya];simp;omega,?_⟩
   rw[hlt,List.map_append,List.map_append,hzm]
   simp[hid]
  have hb:oG q.dw i=true:=by have h9:=h2;simpa [hil] using h9
  rw[hb]at hlt;simp only[if_true,Ym]at hlt
  refine go ?_
  refine ln_ ((i+1,u,zs)) (k:=?_)
  try dsimp only
  exact⟨aa,aa,by rw[hlt];exact hzm⟩
 obtain rfl:i=q.ds.length:=az
 rw[List.take_of_length_le (by rw[List.length_range];exact Nat.le_refl _)]at hzm
 refine gk (k:=rt_ Tryz.results8 (k:=?_))
 exact⟨_,hsb,u,zs,rfl,hzm,rfl⟩
def lenC (p:PrG):Int:=match lr p with
 |none=> -1
 |some l=> ((l.length:Nat):Int)
theorem tLength {G:cK}{H:cG}{a:PrA}{p:PrG} [hg:Glb G H] [hia:Isa H] [hp:gE H a p] [hpc:qA H a p] (hps:HS p):SC G Tryz.prog 7 [.agg (prV a p.all).toArray] H (fun v H'=> v= .int .i64 (lenC p)∧H'=H):=by
 refine sWk Tryz.func7 Tryz.ntmps7 ?_
 refine gk (k:=bxx (k:=fun b1=>?_))
 refine go ?_
 refine c1_ rfl (BF (xs:=p.code) hps.k hps.cb) (k:=?_)
 rintro _ _ (⟨hdn,rfl,rfl⟩|⟨sc,code,hdc,rfl,rfl⟩)
 ·have hl:lenC p= -1:=by rw[lenC,lr,hdn]
  refine e_ mv (k:=e_ exr (k:=e_ exr (k:=e_ asn (k:=e_ asn (k:=on_ (qn_ (ws_ (ws_ (wr_ (e_ mv (k:=?_)))))))))))
  refine e_ (cZ rfl) (k:=?_)
  refine gk (k:=ift (k:=gk (k:=rt_ Tryz.results7 (k:=?_))))
  exact⟨_,hsb,by rw[hl];all_goals rfl,rfl⟩
 have hl:lenC p=((code.length:Nat):Int):=by rw[lenC,lr,hdc]
 refine e_ mv (k:=e_ exr (k:=e_ exr (k:=e_ asn (k:=e_ asn (k:=on_ (qn_ (ws_ (ws_ (wr_ (e_ mv (k:=?_)))))))))))
 refine e_ (cM rfl) (k:=?_)
 refine gk (k:=eg (k:=gk (k:=rt_ Tryz.results7 (k:=?_))))
 exact⟨_,hsb,by rw[hl];all_goals rfl,rfl⟩
theorem tPTotal {G:cK}{H:cG}{b:Nat}{n:Int}{v0 v1 v3:Value} [cQ H b [v0,v1, .int .i64 n,v3]]:SC G Tryz.prog 37 [.pointer (some ⟨b,0,none⟩)] H (fun v H'=> v= .int .i64 n∧H'=H):=by
 refine sWk Tryz.func37 Tryz.ntmps37 ?_
 refine go ?_
 refine gk (k:=rt_ Tryz.results37 (k:=?_))
 exact⟨_,hsb,rfl,rfl⟩
theorem tTotalC {G:cK}{H:cG}{b:Nat}{lp:Option Nat}{im sk:SV}{ps:List Po}{v0 v1 v3 v4 v5 v6:Value} [cQ H b [v0,v1,lpV lp,v3,v4,v5,v6]] [hl:zI H lp im sk ps] (hn:lp=none→ps= []):SC G Tryz.prog 14 [.pointer (some ⟨b,0,none⟩)] H (fun v H'=> v= .int .i64 ((dg ps:Nat):Int)∧H'=H):=by
 refine sWk Tryz.func14 Tryz.ntmps14 ?_
 refine ws_ (wr_ (e_ asn (k:=on_ (qn_ (ws_ (ws_ (wr_ (e_ mv (k:=e_ nck (k:=e_ fla (k:=e_ ldv (k:=?_))))))))))))
 refine e_ (dU rfl) (k:=?_)
 refine gk (k:=wi_ (k:=fun h1=>?_) (m:=fun h1=>?_))
 ·have hln:lp=none:=by have h9:=h1;cases lp with|none=> rfl|some p=> simp at h9
  have hps:=hn hln
  refine gk (k:=rt_ Tryz.results14 (k:=?_))
  exact⟨_,hsb,by rw[hps];all_goals rfl,rfl⟩
 obtain⟨p,rfl⟩:∃p,lp=some p:=by have h9:=h1;cases lp with|none=> simp at h9|some p=> exact⟨p,rfl⟩
 obtain⟨hv1,hv2,hv3⟩:=hl.at_ p rfl
 refine go ?_
 refine d1_ rfl (tPTotal (b:=p)) (k:=gk (k:=rt_ Tryz.results14 (k:=?_)))
 exact⟨_,hsb,rfl,rfl⟩
section
variable {G:cK}{H R:cG}{b u mv:Nat}{ps:List Po}{told:Bool}
abbrev cuDum:cG:= [Vr 0 [.int .i64 0, .int .i64 0,lpV none, .int .i64 0, .int .i64 0, .int .i64 0, .int .i64 0],LPh none SV.nil SV.nil []]
theorem tDocsK [hr:Rem H CuH b ⟨ps,u,mv,told⟩ R]:SC G Tryz.prog 13 [.pointer (some ⟨b,0,none⟩)] H (fun v H'=> v= .int .i64 ((ps.length:Nat):Int)∧H'=CuH b ⟨ps,u,mv,told⟩::R):=
 ⟨(wg (G:=G) (H:=cuDum) (b:=0) (lp:=none) (ps:= []) (fun _=> rfl)).enter,fun w hw=> by
   obtain⟨x,hx,hs⟩:=wm hr hw
   exact(SC.out ((wg (G:=G) (b:=b) (lp:=x.lp) hx.2.1).mono (fun v H' h=> ⟨_,by rw[h.2];exact m6 hx,h.1,rfl⟩))).call w hs⟩
theorem tTotalK [hr:Rem H CuH b ⟨ps,u,mv,told⟩ R]:SC G Tryz.prog 14 [.pointer (some ⟨b,0,none⟩)] H (fun v H'=> v= .int .i64 ((dg ps:Nat):Int)∧H'=CuH b ⟨ps,u,mv,told⟩::R):=
 ⟨(tTotalC (G:=G) (H:=cuDum) (b:=0) (lp:=none) (ps:= []) (fun _=> rfl)).enter,fun w hw=> by
   obtain⟨x,hx,hs⟩:=wm hr hw
   exact(SC.out ((tTotalC (G:=G) (b:=b) (lp:=x.lp) hx.2.1).mono (fun v H' h=> ⟨_,by rw[h.2];exact m6 hx,h.1,rfl⟩))).call w hs⟩
end
end Go.Sx
