import Derived.Test.YtefgpomabdplbaaGreatDoorQ42
import Derived.Test.YtefgpomabdplbaaGreatDoorQ44
set_option linter.unusedVariables false
set_option linter.unusedSimpArgs false
set_option linter.unusedSectionVars false
set_option linter.unnecessarySimpa false
set_option maxHeartbeats 0
namespace Go.Sx
open Go Go.Proofs
set_option maxRecDepth 100000
def w9 (k:Int):Nat:=(IntKind.u64.wrap k).toNat
theorem Ez (k:Int):IntKind.u64.wrap k=((w9 k:Nat):Int):=by
 have h:0≤IntKind.u64.wrap k:=by
  unfold IntKind.wrap
  simp[IntKind.signed,IntKind.bits]
  omega
 unfold w9;omega
structure SmP (fs:List FV) (d:ja):Prop where
 sm:SmD fs d.1
 z:dsz d.1≤30000000
 t:oF fs d.1=0→(eE fs d.1).length≤2000000
 x:d.2.length≤1000000000
theorem y6 {fs:List FV}{ds:List Doc}(h:jF fs ds):(y7 fs ds).length≤1000000000:=by
 have hg:=h.goodT
 have ht:=h.toks
 have hz:=h.size
 have hn:=h.few
 have hfl:=h.flen
 have h1:=qN hg
 have h2:=pS (eE fs ds)
 have h3:=zi (Cj hg ht) (by rw[gS];omega)
 rw[gS]at h3
 have h4:=z7 h.chk
 have h5:=lP (fs:=fs) hz hn fs.length
 have h6:=iM (fs:=fs) (ds:=ds) (aa) h.q
 have h7:=ob (l:=ds.map (·.1)) h.pos (fun x hx=> bC)
 rw[Yh]at h7
 have h8:=ef (n:=ds.length) (k:=6) (aa) (aa)
 have hI:(mH ds).length≤10*4096+6:=by rw[mH,Ya];omega
 have hu:∀n,n<1099511627776→(uv n).length≤6:=fun n hn=> ef hn (aa)
 have u0:(uv 6).length≤6:=hu 6 (ag)
 show(kT 83 (lJ fs ds)).length≤_
 rw[tV,show(lJ fs ds).length=6 from rfl]
 simp only[dW,lJ,List.flatMap_cons,List.flatMap_nil,Ya,Yc,ql]
 have u1:=hu (wW fs).length (aa)
 have u2:=hu (mH ds).length (aa)
 have u3:=hu (kY fs ds fs.length).length (aa)
 have u4:=hu (fA (gb 0 (dm (eE fs ds)))).length (aa)
 have u5:=hu (dB (dm (eE fs ds))).length (aa)
 have u6:=hu (ep fs ds).length (aa)
 omega
theorem IL {G:cK}{H:cG}{fv pv:SV}{kp:Int}{a:PrA}{all:Bool}{fs:List FV}{lp:List (SV×SV)}{ps:List ja} [hg:Glb G H] [Tab H 27 lg] [Tab H 25 jP] [hf:Sl H fv eF fs] [hd:Sl H pv eP lp] [Spc H] (hT:gU G) (hS:lz) (hpi:oS H lp ps) (hpl:ps.length≤1000000000) (hsm:∀p∈ps,SmP fs p) (hfl:fs.length≤1000000) (hfn:∀f∈fs,f.name.size≤1000000000):
 SC G Tryz.prog 6 [.agg [fv.val,pv.val, .int .i64 kp,a.av.val,a.cu.val,a.ne.val, .bool all,a.dr.val,a.co.val].toArray] H (fun v H'=>
  (v= .tuple #[.pointer none, .agg [.slice none 0 0, .slice none 0 0].toArray, .int .i64 1]∧H'=H)∨
  (∃(d:ja) (dv xv:SV) (pt:PtA) (ws:List Nat) (F:cG),rX fs ps=true∧d∈ps∧Ba d.1.length d.2 ws∧dq F pt ⟨fs,d.1,ws⟩∧v= .tuple #[.pointer (some ⟨pt.p,0,none⟩), .agg [dv.val,xv.val].toArray, .int .i64 0]∧H'=fB F::H)):=by
 have hll:=hpi.1
 refine sWk Tryz.func6 Tryz.ntmps6 ?_
 refine gk (k:=bxx (k:=fun b1=>?_))
 refine gk (k:=alc (k:=fun b3=>?_))
 refine go ?_
 refine d1_ rfl (PZ (hpi.less (hsb)) hpl (fun p hp=> (hsm p hp).sm) hfl hfn) (k:=gk (k:=dN 6 17 (k:=fun h1=>gk (k:=edq)) (q:=gk (k:=wi_ (k:=fun h2=>?_) (m:=fun h2=>?_)))))
 ·refine ws_ (wr_ (e_ (bld []) (k:=gk (k:=rt_ Tryz.results6 (k:=?_)))))
  exact⟨_,hsb, .inl ⟨rfl,rfl⟩⟩
 have hok:rX fs ps=true∧0<ps.length:=by have h9:=h2;exact⟨h9.1,aa⟩
 obtain⟨hfx,hne⟩:=hok
 obtain⟨n9,hn9⟩:∃n,n=w9 kp % ps.length:=⟨_,rfl⟩
 have hlt:n9<ps.length:=by rw[hn9];exact Nat.mod_lt _ hne
 obtain⟨p,d,l,hp,hd9,g1,g2,g3⟩:=hpi.get (i:=n9) (aa)
 have hdm:=Yj hd9
 have hck:=Cg hfx hdm
 have hs:=hsm _ hdm
 have hsok:=mZ hck hs.z (hs.t hck)
 refine go ?_
 refine df cI (fun i=> [14,15].contains i) (fun k H=> (k=2→cQ H b1 [fv.val,pv.val, .int .i64 kp,a.av.val,a.cu.val,a.ne.val, .bool all,a.dr.val,a.co.val])∧(k=4→cQ H b1 [fv.val,pv.val, .int .i64 kp,a.av.val,a.cu.val,a.ne.val, .bool all,a.dr.val,a.co.val])∧(k=8→cQ H b1 [fv.val,pv.val, .int .i64 kp,a.av.val,a.cu.val,a.ne.val, .bool all,a.dr.val,a.co.val])∧(k=9→Sl H pv eP lp)∧(k=12→Sl H pv eP lp)∧(k=13→Sl H pv eP lp)) (af_ 0 (q:=cD fun H hH=>fla) (k:=af_ 1 (q:=cD fun H hH=>fla) (k:=?_)))
 refine cE 2 rfl rfl (a8) rfl (cD fun H hH=>ak) (?_)
 refine af_ 3 (q:=cD fun H hH=>fla) (k:=?_)
 refine cE 4 rfl rfl (a8) rfl (cD fun H hH=>ar) (?_)
 refine cE 5 rfl rfl (a8) rfl (cD fun H hH=>ui rfl ((w9 kp:Nat):Int) (Ez kp)) (?_)
 refine af_ 6 (q:=cD fun H hH=>fla) (k:=af_ 7 (q:=cD fun H hH=>fla) (k:=?_))
 refine cE 8 rfl rfl (a8) rfl (cD fun H hH=>aF) (?_)
 refine cE 9 rfl rfl (a8) rfl (cD fun H hH=>by have hN:=hH.2.2.2.1 rfl;exact lnn) (?_)
 refine cE 10 rfl rfl (a8) rfl (cD fun H hH=>cU 18446744073709551616 rfl rfl rfl ps.length (by rw[hll]) (aa)) (?_)
 refine cE 11 rfl rfl (a8) rfl (cD fun H hH=>evq (kG rfl rfl (w9 kp) ps.length rfl rfl hne) (congrArg (fun n:Nat=> Value.int .u64 (n:Int)) hn9.symm)) (?_)
 refine cE 12 rfl rfl (a8) rfl (cD fun H hH=>by have hN:=hH.2.2.2.2.1 rfl;exact ixa) (?_)
 refine cE 13 rfl rfl (a8) rfl (cD fun H hH=>by have hN:=hH.2.2.2.2.2 rfl;exact jn (hy:=hp)) (?_)
 refine cN 14 rfl (a8) rfl (fun k hk=> ⟨fun hi=> ab,fun hi=> ab,fun hi=> ab,fun hi=> ab,fun hi=> ab,fun hi=> ab⟩) (nK) ?_
 rintro _ _ ⟨b5,rfl,rfl⟩
 refine cN 15 rfl (a8) rfl (fun k hk=> ⟨fun hi=> ab,fun hi=> ab,fun hi=> ab,fun hi=> ab,fun hi=> ab,fun hi=> ab⟩) (dM rfl rfl rfl) ?_
 rintro _ _ ⟨rfl,rfl⟩
 refine db (a8) (fun k hk=> ⟨fun hi=> absurd hk (ad),fun hi=> absurd hk (ad),fun hi=> absurd hk (ad),fun hi=> absurd hk (ad),fun hi=> absurd hk (ad),fun hi=> absurd hk (ad)⟩) (go ?_)
 refine c2_ rfl (KP (ds:=d.1) (dead:=d.2) hT hS (g2.less (hsb)) hck hs.z (hs.t hck) (y6 hsok) hs.x) (k:=?_)
 rintro _ _ ⟨pt,ws,F,hdo,hpt,rfl,rfl⟩
 refine e_ asn (k:=on_ (qn_ (ws_ (ws_ (wr_ (e_ mv (k:=?_)))))))
 refine e_ (dU rfl) (k:=?_)
 refine gk (k:=wi_ (k:=fun h3=>?_) (m:=fun h3=>?_))
 ·exact absurd h3 (an)
 refine go ?_
 refine df cI (fun i=> [3].contains i) (fun k H=> (k=1→cQ H b5 [p.1.val,p.2.val])) (af_ 0 (q:=cD fun H hH=>mv) (k:=?_))
 refine cE 1 rfl rfl (a8) rfl (cD fun H hH=>cw) (?_)
 refine af_ 2 (q:=cD fun H hH=>asn) (k:=?_)
 refine cN 3 rfl (a8) rfl (fun k hk=> fun hi=> ab) (dM rfl rfl rfl) ?_
 rintro _ _ ⟨rfl,rfl⟩
 refine af_ 4 (q:=cD fun H hH=>asn) (k:=db (a8) (fun k hk=> fun hi=> absurd hk (ad)) (gk (k:=rt_ Tryz.results6 (k:=?_))))
 exact⟨_,hsb, .inr ⟨d,p.1,p.2,pt,ws,F,hfx,hdm,hdo,hpt,rfl,rfl⟩⟩
open Go
def fdC (ps:List Po) (d:Int):Nat:=qf ps 0 d
def Beh (c:CuS) (d:Int):Prop:=c.u≤fdC c.ps d+1
theorem stand_ps9 {c:CuS}{d:Int}:(ei d c).ps=c.ps:=td d c
theorem stand_sem {c:CuS}{d:Int}(h:Beh c d) (h0:0≤d) (h1:d≤2147483647):(ei d c).u=fdC c.ps d+1:=by
 obtain⟨a1,a2,a3,a4⟩:=AU (ps:=c.ps) (u:=0) (t:=d) (Yl _)
 have hb:c.u≤qf c.ps 0 d+1:=h
 unfold fdC ei
 split
 ·rename_i hlt
  have hne:¬c.u=c.ps.length+1:=fun e=> by rw[e,zg]at hlt;omega
  unfold jE
  rw[if_neg (by rintro(h|h);omega;exact hne h)]
  obtain⟨b1,b2,b3,b4⟩:=AU (ps:=c.ps) (u:=c.u) (t:=d) (aa)
  have e:qf c.ps 0 d=qf c.ps c.u d:=by
   refine GZ (Yl _) b2 (fun j p _ hj hp=> ?_) b4
   by_cases hju:c.u≤j
   ·exact b3 j p hju hj hp
   ·by_cases hjf:j<qf c.ps 0 d
    ·exact a3 j p (Yl _) hjf hp
    ·have e1:c.u=j+1:=by omega
     rw[e1,Km hp]at hlt
     exact hlt
  show qf c.ps c.u d+1=_
  rw[e]
 ·rename_i hge
  have hu:c.u≠0:=fun e=> by rw[e]at hge;exact hge (by show(-1:Int)<d;omega)
  obtain⟨k,hk⟩:∃k,c.u=k+1:=⟨c.u - 1,aa⟩
  rw[hk]at hge⊢
  by_cases hkl:k<c.ps.length
  ·have hp:c.ps[k]? =some c.ps[k]:=Yi hkl
   rw[Km hp]at hge
   by_cases hkf:k<qf c.ps 0 d
   ·exact absurd (a3 k _ (Yl _) hkf hp) hge
   ·omega
  ·omega
theorem Beh.up {c:CuS}{d e:Int}(h:Beh c d) (hde:d≤e):Beh c e:=by
 obtain⟨a1,a2,a3,a4⟩:=AU (ps:=c.ps) (u:=0) (t:=e) (Yl _)
 obtain⟨b1,b2,b3,b4⟩:=AU (ps:=c.ps) (u:=0) (t:=d) (Yl _)
 have hb:c.u≤qf c.ps 0 d+1:=h
 show c.u≤qf c.ps 0 e+1
 by_cases hlt:qf c.ps 0 e<qf c.ps 0 d
 ·have hl:qf c.ps 0 e<c.ps.length:=by omega
  have hp:=Yi hl
  have h3:=b3 _ _ (Yl _) hlt hp
  have h4:=a4 _ hp
  omega
 ·omega
structure BehA (pss:List (List Po)) (cs:List CuS) (d:Int):Prop where
 same:cs.map (·.ps)=pss
 beh:∀c∈cs,Beh c d
theorem BehA.up {pss:List (List Po)}{cs:List CuS}{d e:Int}(h:BehA pss cs d) (hde:d≤e):BehA pss cs e:=⟨h.same,fun c hc=> (h.beh c hc).up hde⟩
theorem BehA.start {pss:List (List Po)}{d:Int}:BehA pss (lh pss).cs d:=by
 refine⟨by simp[lh,List.map_map,Function.comp_def],fun c hc=> ?_⟩
 obtain⟨ps,_,rfl⟩:=List.mem_map.1 hc
 exact Yl _
theorem BehA.psd {pss:List (List Po)}{cs:List CuS}{d:Int}(h:BehA pss cs d) (k:Nat):(cs.getD k m5).ps=pss.getD k []:=by
 rw[←h.same,List.getD_eq_getElem?_getD,List.getD_eq_getElem?_getD,Xd]
 all_goals (cases cs[k]? <;> rfl)
theorem BehA.get {pss:List (List Po)}{cs:List CuS}{d:Int}(h:BehA pss cs d) (k:Nat):Beh (cs.getD k m5) d:=by
 rw[List.getD_eq_getElem?_getD]
 cases hk:cs[k]? with
 |none=> exact Yl _
 |some c=> exact h.beh c (Yj hk)
theorem BehA.set {pss:List (List Po)}{cs:List CuS}{d:Int}(h:BehA pss cs d) {k:Nat}{c:CuS}(hp:c.ps=(cs.getD k m5).ps) (hc:Beh c d):BehA pss (cs.set k c) d:=by
 refine⟨?_,fun x hx=> ?_⟩
 ·rw[←h.same,List.map_set]
  refine List.ext_getElem? fun j=> ?_
  rw[List.getElem?_set]
  by_cases e:k=j
  ·subst e
   rw[if_pos rfl,Yh]
   by_cases hk:k<cs.length
   ·rw[if_pos hk,Xd,hp,List.getD_eq_getElem?_getD,Yi hk];all_goals rfl
   ·rw[if_neg hk,Xd,List.getElem?_eq_none (aa)];all_goals rfl
  ·rw[if_neg e]
 ·rcases List.mem_or_eq_of_mem_set hx with hx|rfl
  ·exact h.beh x hx
  ·exact hc
def atP (ps:List Po) (d:Int):Bool:=decide (gJ ps (fdC ps d+1)=d)
def hereP (ps:List Po) (d:Int):List Nat:=match ps[fdC ps d]? with
 |some p=> p.2
 |none=> []
theorem isAt_sem {c:CuS}{d:Int}(h:Beh c d) (h0:0≤d) (h1:d≤2147483647):AD d (ei d c)=atP c.ps d:=by
 rw[AD,stand_ps9,stand_sem h h0 h1];all_goals rfl
theorem here_u {c:CuS}{d:Int}(h:c.u=fdC c.ps d+1):eV c=hereP c.ps d:=by
 rw[eV,h];all_goals rfl
theorem stand_beh {c:CuS}{d:Int}(h:Beh c d) (h0:0≤d) (h1:d≤2147483647):Beh (ei d c) d:=by
 show(ei d c).u≤fdC (ei d c).ps d+1
 rw[stand_sem h h0 h1,stand_ps9]
 exact Nat.le_refl _
def termS (c:Cfg) (pss:List (List Po)) (d a w:Nat):VV:=if atP (pss.getD a []) d=true then tr c d w (hereP (pss.getD a []) d).length (ou c a)else(false,0)
theorem termV_sem {c:Cfg}{pss:List (List Po)}{cs:List CuS}{d a w:Nat}(h:BehA pss cs (d:Int)) (h1:(d:Int)≤2147483647):(uW c d a w cs).1=termS c pss d a w∧BehA pss (uW c d a w cs).2 (d:Int):=by
 have hb:=h.get a
 unfold uW
 refine⟨?_,h.set stand_ps9 (stand_beh hb (aa) h1)⟩
 dsimp only
 rw[isAt_sem hb (aa) h1,here_u (by rw[stand_sem hb (aa) h1,stand_ps9]),stand_ps9,h.psd]
 all_goals rfl
def Stood (cs:List CuS) (k:Nat) (d:Int):Prop:=k<cs.length→(cs.getD k m5).u=fdC (cs.getD k m5).ps d+1
theorem getD_set_self {cs:List CuS}{k:Nat}{c:CuS}(h:k<cs.length):(cs.set k c).getD k m5=c:=by
 rw[List.getD_eq_getElem?_getD,List.getElem?_set_self h];all_goals rfl
theorem getD_set_ne9 {cs:List CuS}{j k:Nat}{c:CuS}(h:j≠k):(cs.set j c).getD k m5=cs.getD k m5:=by
 rw[List.getD_eq_getElem?_getD,List.getElem?_set_ne h,←List.getD_eq_getElem?_getD]
theorem Stood.set {cs:List CuS}{j k:Nat}{d:Int}{c:CuS}(h:Stood cs k d) (hp:c.ps=(cs.getD j m5).ps) (hc:j=k→c.u=fdC c.ps d+1):Stood (cs.set j c) k d:=by
 intro hk
 rw[List.length_set]at hk
 by_cases e:j=k
 ·subst e
  rw[getD_set_self hk]
  exact hc rfl
 ·rw[getD_set_ne9 e]
  exact h hk
theorem Stood.self {cs:List CuS}{k:Nat}{d:Int}{c:CuS}(hc:c.u=fdC c.ps d+1):Stood (cs.set k c) k d:=by
 intro hk
 rw[List.length_set]at hk
 rw[getD_set_self hk]
 exact hc
theorem stand_u9 {c:CuS}{d:Int}(h:Beh c d) (h0:0≤d) (h1:d≤2147483647):(ei d c).u=fdC (ei d c).ps d+1:=by rw[stand_sem h h0 h1,stand_ps9]
theorem allAt_keep {pss:List (List Po)}{d:Int}(h0:0≤d) (h1:d≤2147483647) {k:Nat}:∀{ks:List Int}{cs:List CuS},BehA pss cs d→Stood cs k d→Stood (rQ d ks cs).2 k d
 | [],_,_,hs=> hs
 |j::r,cs,h,hs=> by
  have hb:=h.get j.toNat
  have hs':Stood (cs.set j.toNat (ei d (cs.getD j.toNat m5))) k d:=hs.set stand_ps9 fun _=> stand_u9 hb h0 h1
  rw[rQ]
  split
  ·exact allAt_keep h0 h1 (h.set stand_ps9 (stand_beh hb h0 h1)) hs'
  ·exact hs'
theorem allAt_sem {pss:List (List Po)}{d:Int}(h0:0≤d) (h1:d≤2147483647):∀{ks:List Int}{cs:List CuS},BehA pss cs d→
 (rQ d ks cs).1=(ks.all fun k=> atP (pss.getD k.toNat []) d)∧BehA pss (rQ d ks cs).2 d∧((rQ d ks cs).1=true→∀k∈ks,Stood (rQ d ks cs).2 k.toNat d)
 | [],_,h=> ⟨rfl,h,fun _ k hk=> by cases hk⟩
 |j::r,cs,h=> by
  have hb:=h.get j.toNat
  have h':BehA pss (cs.set j.toNat (ei d (cs.getD j.toNat m5))) d:=h.set stand_ps9 (stand_beh hb h0 h1)
  have hst:Stood (cs.set j.toNat (ei d (cs.getD j.toNat m5))) j.toNat d:=Stood.self (stand_u9 hb h0 h1)
  have he:=isAt_sem hb h0 h1
  rw[h.psd]at he
  rw[rQ,he,List.all_cons]
  cases ha:atP (pss.getD j.toNat []) d with
  |false=> exact⟨rfl,h',fun hc=> by cases hc⟩
  |true=>
   rw[if_pos rfl,Bool.true_and]
   obtain⟨i1,i2,i3⟩:=allAt_sem h0 h1 (ks:=r) h'
   refine⟨i1,i2,fun hc k hk=> ?_⟩
   rcases List.mem_cons.1 hk with rfl|hk
   ·exact allAt_keep h0 h1 h' hst
   ·exact i3 hc k hk
theorem stood_here {pss:List (List Po)}{cs:List CuS}{k:Nat}{d:Int}(h:BehA pss cs d) (hs:Stood cs k d):eV (cs.getD k m5)=hereP (pss.getD k []) d:=by
 rw[←h.psd]
 by_cases hk:k<cs.length
 ·exact here_u (hs hk)
 ·rw[List.getD_eq_getElem?_getD,List.getElem?_eq_none (aa)];all_goals rfl
theorem tellAll_sem {pss:List (List Po)}{d:Int}:∀{ks:List Int}{cs:List CuS},BehA pss cs d→(∀k∈ks,Stood cs k.toNat d)→
 (jV ks cs).1=(ks.map fun k=> hereP (pss.getD k.toNat []) d)∧BehA pss (jV ks cs).2 d
 | [],_,h,_=> ⟨rfl,h⟩
 |j::r,cs,h,hs=> by
  have hb:=h.get j.toNat
  have h':BehA pss (cs.set j.toNat (ln (cs.getD j.toNat m5))) d:=h.set (FI _) (by show(ln _).u≤fdC (ln _).ps d+1;rw[pos_u,FI];exact hb)
  obtain⟨i1,i2⟩:=tellAll_sem (ks:=r) h' fun k hk=> by
   have h9:=hs k (Xa _ hk)
   intro hl
   rw[List.length_set]at hl
   have h10:=h9 hl
   by_cases e:j.toNat=k.toNat
   ·rw[←e]at hl h10⊢
    rw[getD_set_self hl,pos_u,FI];exact h10
   ·rw[getD_set_ne9 e];exact h10
  rw[jV]
  exact⟨by rw[i1,stood_here h (hs j (List.mem_cons_self ..))];all_goals rfl,i2⟩
def phraseS (c:Cfg) (pss:List (List Po)) (d a w:Nat):VV:=
 let n:=c.p.nears.getD a G4
 if(n.cs.all fun k=> atP (pss.getD k.toNat []) d)=false then(false,0)else
 let f:=jW (n.cs.map fun k=> hereP (pss.getD k.toNat []) d) n.offs n.slop
 if f=0 then(false,0)else tr c d w f (ou c (n.cs.headD 0).toNat)
theorem phraseV_sem {c:Cfg}{pss:List (List Po)}{cs:List CuS}{d a w:Nat}(h:BehA pss cs (d:Int)) (h1:(d:Int)≤2147483647):(mz c d a w cs).1=phraseS c pss d a w∧BehA pss (mz c d a w cs).2 (d:Int):=by
 obtain⟨a1,a2,a3⟩:=allAt_sem (aa) h1 (ks:=(c.p.nears.getD a G4).cs) h
 unfold mz phraseS
 dsimp only
 rw[a1]
 cases ha:((c.p.nears.getD a G4).cs.all fun k=> atP (pss.getD k.toNat []) (d:Int))with
 |false=> exact⟨rfl,a2⟩
 |true=>
  obtain⟨b1,b2⟩:=tellAll_sem a2 (a3 (by rw[a1,ha]))
  rw[if_neg (show ¬(true=false)from ag),if_neg (show ¬(true=false)from ag),b1]
  exact⟨rfl,b2⟩
def opS (c:Cfg) (pss:List (List Po)) (d:Nat) (x:Ins) (pc:Nat) (st:List VV):Nat×List VV:=
 match x.1 with
 | 4=> (pc,st++ [termS c pss d x.2.1 x.2.2])
 | 5=> (pc,st++ [phraseS c pss d x.2.1 x.2.2])
 |_=> ((opV c d x pc st []).1,(opV c d x pc st []).2.1)
theorem opV_sem {c:Cfg}{pss:List (List Po)}{cs:List CuS}{d pc:Nat}{x:Ins}{st:List VV}(h:BehA pss cs (d:Int)) (h1:(d:Int)≤2147483647):
 (opV c d x pc st cs).1=(opS c pss d x pc st).1∧(opV c d x pc st cs).2.1=(opS c pss d x pc st).2∧BehA pss (opV c d x pc st cs).2.2 (d:Int):=by
 obtain⟨t1,t2⟩:=termV_sem (c:=c) (a:=x.2.1) (w:=x.2.2) h h1
 obtain⟨p1,p2⟩:=phraseV_sem (c:=c) (a:=x.2.1) (w:=x.2.2) h h1
 obtain⟨o,A,B⟩:=x
 match o with
 | 0=> exact⟨rfl,rfl,h⟩
 | 1=> exact⟨rfl,rfl,h⟩
 | 2=> exact⟨rfl,rfl,h⟩
 | 3=> exact⟨rfl,rfl,h⟩
 | 4=> exact⟨rfl,by show st++ [(uW c d A B cs).1]=st++ [termS c pss d A B];rw[t1],t2⟩
 | 5=> exact⟨rfl,by show st++ [(mz c d A B cs).1]=st++ [phraseS c pss d A B];rw[p1],p2⟩
 | 6=> exact⟨rfl,rfl,h⟩
 | 7=> exact⟨rfl,rfl,h⟩
 | 8=> exact⟨rfl,rfl,h⟩
 | 9=> exact⟨rfl,rfl,h⟩
 | 10=> exact⟨rfl,rfl,h⟩
 | 11=> exact⟨rfl,rfl,h⟩
 | 12=> exact⟨rfl,rfl,h⟩
 | 13=> exact⟨rfl,rfl,h⟩
 | 14=> exact⟨rfl,rfl,h⟩
 | 15=> exact⟨rfl,rfl,h⟩
 | 16=> exact⟨rfl,rfl,h⟩
 |n+17=> exact⟨rfl,rfl,h⟩
def runS (c:Cfg) (pss:List (List Po)) (d:Nat):Nat→Nat→List VV→VV
 | 0,_,st=> fR st
 |n+1,pc,st=>
  if(jR c pc).1=0 then fR st else
  runS c pss d n (opS c pss d (jR c pc) (pc+1) st).1 (opS c pss d (jR c pc) (pc+1) st).2
theorem runV_sem {c:Cfg}{pss:List (List Po)}{d:Nat}(h1:(d:Int)≤2147483647):∀(n pc:Nat) (st:List VV) (cs:List CuS) (k:Nat),BehA pss cs (d:Int)→
 (qL c d n pc st cs k).1=runS c pss d n pc st∧BehA pss (qL c d n pc st cs k).2.1 (d:Int)
 | 0,pc,st,cs,k,h=> ⟨rfl,h⟩
 |n+1,pc,st,cs,k,h=> by
  rw[qL,runS]
  split
  ·exact⟨rfl,h⟩
  ·obtain⟨o1,o2,o3⟩:=opV_sem (c:=c) (x:=jR c pc) (pc:=pc+1) (st:=st) h h1
   rw[←o1,←o2]
   exact runV_sem h1 n _ _ _ (k+1) o3
def liveC (c:Cfg):List Nat:=(List.range c.ids.length).filter fun d:Nat=> !c.dead d
def HitsAt (c:Cfg):Int→List Hit→Prop
 |_, []=> True
 |lo,h::r=> ∃d:Nat,lo<(d:Int)∧d<c.ids.length∧c.dead d=false∧h.1=c.ids.getD d 0∧HitsAt c (d:Int) r
theorem HitsAt.less {c:Cfg}{lo lo':Int}(h:lo≤lo'):∀{hs:List Hit},HitsAt c lo' hs→HitsAt c lo hs
 | [],_=> trivial
 |_::_,⟨d,h1,h2,h3,h4,h5⟩=> ⟨d,aa,h2,h3,h4,h5⟩
theorem filter_split {P:Nat→Bool}{lo:Int}{d:Nat}(hlo:lo<(d:Int)) (hP:P d=true):∀{l:List Nat},l.Pairwise (· < ·)→d∈l→
 l.filter (fun x:Nat=> decide (lo<(x:Int)) && P x)=l.filter (fun x:Nat=> decide (lo<(x:Int)) && decide (x<d) && P x)++d::l.filter (fun x:Nat=> decide ((d:Int)<(x:Int)) && P x)
 |a::l,hp,hm=> by
  obtain⟨h1,h2⟩:=List.pairwise_cons.1 hp
  rcases Nat.lt_trichotomy a d with h|rfl|h
  ·have hm':d∈l:=by
    rcases List.mem_cons.1 hm with rfl|hm
    ·omega
    ·exact hm
   have ih:=filter_split hlo hP h2 hm'
   have e3:(decide ((d:Int)<(a:Int)) && P a)=false:=by rw[Yr (aa)];all_goals rfl
   rw[List.filter_cons,List.filter_cons (p:=fun x:Nat=> decide (lo<(x:Int)) && decide (x<d) && P x),List.filter_cons (p:=fun x:Nat=> decide ((d:Int)<(x:Int)) && P x),e3,ih,Ys h,Bool.and_true]
   all_goals (cases hq:(decide (lo<(a:Int)) && P a) <;> rfl)
  ·have e1:(decide (lo<(a:Int)) && P a)=true:=by rw[Ys hlo,hP];all_goals rfl
   have e2:(decide (lo<(a:Int)) && decide (a<a) && P a)=false:=an
   have e3:(decide ((a:Int)<(a:Int)) && P a)=false:=an
   rw[List.filter_cons,List.filter_cons (p:=fun x:Nat=> decide (lo<(x:Int)) && decide (x<a) && P x),List.filter_cons (p:=fun x:Nat=> decide ((a:Int)<(x:Int)) && P x),e1,e2,e3]
   have f1:l.filter (fun x:Nat=> decide (lo<(x:Int)) && P x)=l.filter (fun x:Nat=> decide ((a:Int)<(x:Int)) && P x):=List.filter_congr fun x hx=> by
    have:=h1 x hx
    rw[Ys (show lo<(x:Int)from aa),Ys (show(a:Int)<(x:Int)from aa)]
   have f2:l.filter (fun x:Nat=> decide (lo<(x:Int)) && decide (x<a) && P x)= []:=List.filter_eq_nil_iff.2 fun x hx=> by
    have:=h1 x hx
    rw[Yr (show ¬x<a from aa)]
    simp
   rw[f1,f2]
   all_goals rfl
  ·rcases List.mem_cons.1 hm with rfl|hm
   ·omega
   ·have:=h1 d hm
    omega
def liveF (c:Cfg) (lo:Int):List Nat:=(List.range c.ids.length).filter fun x:Nat=> decide (lo<(x:Int)) && !c.dead x
theorem liveF_all (c:Cfg):liveF c (-1)=liveC c:=List.filter_congr fun x _=> by rw[Ys (aa),Bool.true_and]
theorem drop_range_mem {n i x:Nat}(h:x∈(List.range n).drop i):i≤x:=by
 obtain⟨j,hj⟩:=List.getElem?_of_mem h
 rw[Xh]at hj
 have hlt:=(Yk.1 hj).1
 rw[List.length_range]at hlt
 rw[List.getElem?_range hlt]at hj
 have:=Option.some.inj hj
 omega
theorem take_range_mem {n i x:Nat}(h:x∈(List.range n).take i):x<i:=by
 obtain⟨j,hj⟩:=List.getElem?_of_mem h
 rw[List.getElem?_take]at hj
 split at hj
 ·rename_i hji
  have hlt:=(Yk.1 hj).1
  rw[List.length_range]at hlt
  rw[List.getElem?_range hlt]at hj
  have:=Option.some.inj hj
  omega
 ·cases hj
theorem liveF_drop (c:Cfg) {lo:Int}(h: -1≤lo):liveF c lo=((List.range c.ids.length).drop (lo+1).toNat).filter fun x=> !c.dead x:=by
 unfold liveF
 have e:List.range c.ids.length=(List.range c.ids.length).take (lo+1).toNat++(List.range c.ids.length).drop (lo+1).toNat:=(List.take_append_drop _ _).symm
 rw[e,List.filter_append,←e]
 have h1:((List.range c.ids.length).take (lo+1).toNat).filter (fun x:Nat=> decide (lo<(x:Int)) && !c.dead x)= []:=List.filter_eq_nil_iff.2 fun x hx=> by
  have:=take_range_mem hx
  rw[Yr (aa)]
  simp
 rw[h1,Ye]
 exact List.filter_congr fun x hx=> by
  have:=drop_range_mem hx
  rw[Ys (aa),Bool.true_and]
theorem next_head (c:Cfg) {lo:Int}(h: -1≤lo):tK c (lo+1).toNat=(liveF c lo).head? :=by
 rw[liveF_drop c h,tK,List.head?_filter]
theorem next_none {c:Cfg}{lo:Int}(h: -1≤lo) (hn:tK c (lo+1).toNat=none):liveF c lo= []:=by
 rw[next_head c h]at hn
 exact List.head?_eq_none_iff.1 hn
theorem next_some {c:Cfg}{lo:Int}{d:Nat}(h: -1≤lo) (hn:tK c (lo+1).toNat=some d):liveF c lo=d::liveF c (d:Int):=by
 obtain⟨h1,h2,h3⟩:=JC hn
 rw[next_head c h]at hn
 have hs:=filter_split (P:=fun x=> !c.dead x) (lo:=lo) (d:=d) (aa) (by rw[h3];all_goals rfl) (List.pairwise_lt_range (n:=c.ids.length)) (List.mem_range.2 h2)
 unfold liveF at hn⊢
 rw[hs]at hn⊢
 cases hA:(List.range c.ids.length).filter (fun x:Nat=> decide (lo<(x:Int)) && decide (x<d) && !c.dead x)with
 |nil=> rfl
 |cons a l=>
  rw[hA]at hn
  have ha:a=d:=Option.some.inj hn
  have hm:a∈(List.range c.ids.length).filter (fun x:Nat=> decide (lo<(x:Int)) && decide (x<d) && !c.dead x):=by rw[hA];exact List.mem_cons_self ..
  obtain⟨_,hb⟩:=List.mem_filter.1 hm
  simp only[Bool.and_eq_true,decide_eq_true_eq]at hb
  omega
def hitS (c:Cfg) (pss:List (List Po)) (d:Nat):Option Hit:=if(runS c pss d c.ins.length 0 []).1=true then some (c.ids.getD d 0,(runS c pss d c.ins.length 0 []).2)else none
theorem hitM_sem {c:Cfg}{pss:List (List Po)}(hall:c.p.all=true) (hn:c.ids.length≤2147483647):∀(n:Nat) (s:MS), -1≤s.pl→BehA pss s.cs (s.pl+1)→(liveF c s.pl).length<n→
 ((qU c n s).1=none→(liveF c s.pl).filterMap (hitS c pss)= [])∧
 (∀h,(qU c n s).1=some h→(liveF c s.pl).filterMap (hitS c pss)=h::(liveF c (qU c n s).2.pl).filterMap (hitS c pss)∧(liveF c (qU c n s).2.pl).length<(liveF c s.pl).length∧ -1≤(qU c n s).2.pl∧BehA pss (qU c n s).2.cs ((qU c n s).2.pl+1))
 | 0,s,_,_,h=> aa
 |n+1,s,hlo,hb,hl=> by
  have hnx:er c s=match tK c (s.pl+1).toNat with
   |some d=> (true,⟨s.cs,(d:Int),s.steps,s.visits⟩)
   |none=> (false,s):=by
   rw[er,if_pos hall]
   all_goals (cases tK c (s.pl+1).toNat <;> rfl)
  rw[qU,hnx]
  cases hd:tK c (s.pl+1).toNat with
  |none=>
   dsimp only
   rw[if_pos rfl,next_none hlo hd]
   exact⟨fun _=> rfl,fun h hh=> by cases hh⟩
  |some d=>
   obtain⟨d1,d2,d3⟩:=JC hd
   have hL:=next_some hlo hd
   dsimp only
   rw[if_neg (ag)]
   have hv:=runV_sem (c:=c) (pss:=pss) (d:=d) (aa) c.ins.length 0 [] s.cs s.steps (hb.up (aa))
   have hvis:hU c ⟨s.cs,(d:Int),s.steps,s.visits⟩=((qL c d c.ins.length 0 [] s.cs s.steps).1,⟨(qL c d c.ins.length 0 [] s.cs s.steps).2.1,(d:Int),(qL c d c.ins.length 0 [] s.cs s.steps).2.2,s.visits+1⟩):=rfl
   rw[hvis]
   dsimp only
   rw[hv.1,hL,List.filterMap_cons]
   rw[hL,Yb]at hl
   by_cases hh:(runS c pss d c.ins.length 0 []).1=true
   ·rw[if_pos hh]
    have e:hitS c pss d=some (c.ids.getD d 0,(runS c pss d c.ins.length 0 []).2):=if_pos hh
    rw[e]
    refine⟨fun h=> (aW),fun h h9=> ?_⟩
    obtain rfl:=Option.some.inj h9
    exact⟨rfl,by rw[Yb];exact Nat.lt_succ_self _,by show(-1:Int)≤(d:Int);omega,hv.2.up (by show(d:Int)≤(d:Int)+1;omega)⟩
   ·rw[if_neg hh]
    have e:hitS c pss d=none:=if_neg hh
    rw[e]
    obtain⟨i1,i2⟩:=hitM_sem hall hn n ⟨(qL c d c.ins.length 0 [] s.cs s.steps).2.1,(d:Int),(qL c d c.ins.length 0 [] s.cs s.steps).2.2,s.visits+1⟩ (by show(-1:Int)≤(d:Int);omega) (hv.2.up (by show(d:Int)≤(d:Int)+1;omega)) (by show(liveF c (d:Int)).length<n;omega)
    refine⟨i1,fun h h9=> ?_⟩
    obtain⟨j1,j2,j3,j4⟩:=i2 h h9
    exact⟨j1,by rw[Yb];exact Nat.lt_succ_of_lt j2,j3,j4⟩
theorem allM_sem {c:Cfg}{pss:List (List Po)}(hall:c.p.all=true) (hn:c.ids.length≤2147483647):∀(n:Nat) (s:MS), -1≤s.pl→BehA pss s.cs (s.pl+1)→(liveF c s.pl).length<n→(kS c n s).1=(liveF c s.pl).filterMap (hitS c pss)
 | 0,s,_,_,h=> aa
 |n+1,s,hlo,hb,hl=> by
  have hle:(liveF c s.pl).length<c.ids.length+1:=by
   have:=List.length_filter_le (fun x:Nat=> decide (s.pl<(x:Int)) && !c.dead x) (List.range c.ids.length)
   rw[List.length_range]at this
   unfold liveF
   omega
  obtain⟨h1,h2⟩:=hitM_sem (pss:=pss) hall hn (c.ids.length+1) s hlo hb hle
  cases hx:(dV c s).1 with
  |none=> rw[HI hx,h1 hx]
  |some x=>
   obtain⟨j1,j2,j3,j4⟩:=h2 x hx
   rw[HH hx,j1]
   unfold dV
   exact congrArg _ (allM_sem hall hn n _ j3 j4 (aa))
theorem run_sem {c:Cfg}{pss:List (List Po)}(hall:c.p.all=true) (hn:c.ids.length≤2147483647):(Fx c (lh pss)).1=(liveC c).filterMap (hitS c pss):=by
 unfold Fx
 have hle:(liveF c (-1)).length<c.ids.length+1:=by
  have:=List.length_filter_le (fun x:Nat=> decide ((-1:Int)<(x:Int)) && !c.dead x) (List.range c.ids.length)
  rw[List.length_range]at this
  unfold liveF
  omega
 rw[allM_sem (pss:=pss) hall hn _ (lh pss) (by decide:(-1:Int)≤ -1) BehA.start hle,show(lh pss).pl= -1 from rfl,liveF_all]
structure StepG (p:PrG) (code:List Ins) (g:Nat→Nat) (i:Nat):Prop where
 eff:iW (code.getD i (0,0,0)) (g i)=some (g (i+1))
 last:i+1=code.length↔(code.getD i (0,0,0)).1=0
 oper:p9 p (code.getD i (0,0,0))=true
 jump:pg (code.getD i (0,0,0))=true→(code.getD i (0,0,0)).2.1≤code.length - 2 - i∧g (i+1+(code.getD i (0,0,0)).2.1)=g (i+1)
def HsG (g:Nat→Nat) (hs:Hs):Prop:=∀j k,hs.getD j none=some k→k=g j
theorem meet_full {g:Nat→Nat}{hs:Hs}{j h:Nat}(hj:j<hs.length) (hi:HsG g hs) (hh:h=g j):∃hs',jC hs j h=some hs'∧HsG g hs'∧hs'.length=hs.length∧hs'.getD j none=some (g j):=by
 unfold jC
 cases hv:hs.getD j none with
 |none=>
  refine⟨_,rfl,fun k v hk=> ?_,List.length_set,?_⟩
  ·rw[List.getD_eq_getElem?_getD,List.getElem?_set]at hk
   by_cases e:j=k
   ·subst e
    rw[if_pos rfl,if_pos hj]at hk
    rw[←hh]
    exact(Option.some.inj hk).symm
   ·rw[if_neg e,←List.getD_eq_getElem?_getD]at hk
    exact hi k v hk
  ·rw[List.getD_eq_getElem?_getD,List.getElem?_set_self hj,hh];all_goals rfl
 |some k=>
  have h1:=hi j k hv
  subst h1
  dsimp only
  rw[if_pos hh.symm]
  exact⟨_,rfl,hi,rfl,hv⟩
theorem check_full {p:PrG}{code:List Ins}{g:Nat→Nat}(hst:∀i,i<code.length→StepG p code g i):∀(n i:Nat) (hs:Hs),n+i=code.length→hs.length=code.length→(i<code.length→hs.getD i none=some (g i))→HsG g hs→∃hs',jM p code n i hs=some hs'
 | 0,i,hs,_,_,_,_=> ⟨hs,rfl⟩
 |n+1,i,hs,hn,hl,hi,hg=> by
  have hs1:=hst i (aa)
  rw[jM,hi (aa),Option.getD_some,hs1.eff]
  dsimp only
  have hdec:decide (i+1=code.length)=decide ((code.getD i (0,0,0)).1=0):=by
   by_cases e:i+1=code.length
   ·rw[Ys e,Ys (hs1.last.1 e)]
   ·rw[Yr e,Yr (fun h=> e (hs1.last.2 h))]
  rw[if_pos ⟨hdec,hs1.oper⟩]
  split
  ·exact⟨_,rfl⟩
  ·rename_i hne
   obtain⟨a,ha,hga,hla,hia⟩:=meet_full (g:=g) (hs:=hs) (j:=i+1) (h:=g (i+1)) (aa) hg rfl
   rw[ha]
   dsimp only
   split
   ·rename_i hJ
    obtain⟨j1,j2⟩:=hs1.jump hJ
    rw[if_neg (aa)]
    obtain⟨b,hb,hgb,hlb,hib⟩:=meet_full (g:=g) (hs:=a) (j:=i+1+(code.getD i (0,0,0)).2.1) (h:=g (i+1)) (aa) hga j2.symm
    rw[hb]
    dsimp only
    refine check_full hst n (i+1) b (aa) (aa) (fun _=> ?_) hgb
    have h5:∀k v,a.getD k none=some v→b.getD k none=some v:=by
     intro k v hk
     unfold jC at hb
     split at hb
     ·rename_i hnone
      obtain rfl:=Option.some.inj hb
      rw[List.getD_eq_getElem?_getD,List.getElem?_set]
      by_cases e:i+1+(code.getD i (0,0,0)).2.1=k
      ·rw[←e,hnone]at hk;cases hk
      ·rw[if_neg e,←List.getD_eq_getElem?_getD];exact hk
     ·split at hb
      ·obtain rfl:=Option.some.inj hb;exact hk
      ·cases hb
    exact h5 _ _ hia
   ·exact check_full hst n (i+1) a (aa) (aa) (fun _=> hia) hga
theorem checkP_full {p:PrG}{code:List Ins}{g:Nat→Nat}(hd:lr p=some code) (hne:0<code.length) (ht:ie p=true) (h0:g 0=0) (hst:∀i,i<code.length→StepG p code g i):∃hs,gD p=some hs:=by
 unfold gD
 rw[hd]
 dsimp only
 rw[if_neg (by rintro(h|h);omega;rw[ht]at h;cases h)]
 refine check_full hst code.length 0 _ (aa) (by simp[hs0]) (fun _=> ?_) ?_
 ·rw[hs0,List.getD_eq_getElem?_getD,List.getElem?_set_self (by simpa using hne),h0];all_goals rfl
 ·intro j k hk
  rw[hs0,List.getD_eq_getElem?_getD,List.getElem?_set]at hk
  by_cases e:0=j
  ·subst e
   rw[if_pos rfl,if_pos (by simpa using hne)]at hk
   rw[h0]
   exact(Option.some.inj hk).symm
  ·rw[if_neg e,List.getElem?_replicate]at hk
   split at hk <;> cases hk
theorem step_g {p:PrG}{code:List Ins}{hs:Hs}(h:zL p code hs):∃g:Nat→Nat,g 0=0∧g code.length=1∧∀i,i<code.length→StepG p code g i:=by
 refine⟨fun i=> if i<code.length then(hs.getD i none).getD 0 else 1,?_,?_,?_⟩
 ·show(if 0<code.length then(hs.getD 0 none).getD 0 else 1)=0
  rw[if_pos h.ne,h.at0];all_goals rfl
 ·show(if code.length<code.length then(hs.getD code.length none).getD 0 else 1)=1
  rw[if_neg (Nat.lt_irrefl _)]
 ·intro i hi
  obtain⟨k,k',e1,e2,e3,e4,e5⟩:=(h.step i hi).ex
  refine⟨?_,e3,e4,?_⟩
  ·rw[if_pos hi,e1,Option.getD_some,e2]
   by_cases hn:i+1<code.length
   ·rw[if_pos hn,(e5 hn).1];all_goals rfl
   ·rw[if_neg hn]
    have h0:=e3.1 (aa)
    rw[iW,h0]at e2
    replace e2:(if k=1 then some k else none)=some k':=e2
    split at e2
    ·rename_i hk1
     rw[←Option.some.inj e2,hk1]
    ·cases e2
  ·intro hJ
   have hn:i+1<code.length:=by
    have:(code.getD i (0,0,0)).1≠0:=by
     intro h0
     rw[pg,h0]at hJ
     revert hJ
     decide
    have:=fun e=> this (e3.1 e)
    omega
   obtain⟨f1,f2⟩:=e5 hn
   obtain⟨f3,f4⟩:=f2 hJ
   refine⟨f3,?_⟩
   rw[if_pos hn,f1,if_pos (aa),f4]
theorem topV_app {B st:List VV}(h:st≠ []):fR (B++st)=fR st:=by
 unfold fR
 rw[List.getLast?_append]
 cases e:st.getLast? with
 |none=> exact absurd (List.getLast?_eq_none_iff.1 e) h
 |some v=> rfl
theorem drop_app {B st:List VV}(h:st≠ []):(B++st).dropLast=B++st.dropLast:=List.dropLast_append_of_ne_nil h
theorem oneV_app {B st:List VV}{f:VV→VV}(h:1≤st.length):nu (B++st) f=B++nu st f:=by
 have hne:st≠ []:=fun e=> by rw[e]at h;simp at h
 unfold nu
 rw[drop_app hne,topV_app hne,Yf]
theorem twoV_app {B st:List VV}{f:VV→VV→VV}(h:2≤st.length):kh (B++st) f=B++kh st f:=by
 have hne:st≠ []:=fun e=> by rw[e]at h;simp at h
 have hne2:st.dropLast≠ []:=fun e=> by
  have:=congrArg List.length e
  rw[List.length_dropLast]at this
  simp at this
  omega
 unfold kh
 rw[drop_app hne,topV_app hne,drop_app hne2,topV_app hne2,Yf]
theorem opS_app {c:Cfg}{pss:List (List Po)}{d pc h':Nat}{x:Ins}{B st:List VV}(he:iW x st.length=some h'):opS c pss d x pc (B++st)=((opS c pss d x pc st).1,B++(opS c pss d x pc st).2):=by
 obtain⟨o,A,C⟩:=x
 have two:∀{k:Nat},(if 2≤st.length then some (st.length - 1)else none)=some k→2≤st.length:=fun{k} hk=> by
  by_cases h:2≤st.length
  ·exact h
  ·rw[if_neg h]at hk;cases hk
 have one:∀{k:Nat},(if 1≤st.length then some st.length else none)=some k→1≤st.length:=fun{k} hk=> by
  by_cases h:1≤st.length
  ·exact h
  ·rw[if_neg h]at hk;cases hk
 have ne:1≤st.length→st≠ []:=fun h e=> by rw[e]at h;simp at h
 match o with
 | 0=> rfl
 | 1=> exact Prod.ext rfl (Yf ..)
 | 2=> exact Prod.ext rfl (Yf ..)
 | 3=> exact Prod.ext rfl (Yf ..)
 | 4=> exact Prod.ext rfl (Yf ..)
 | 5=> exact Prod.ext rfl (Yf ..)
 | 6=> exact Prod.ext rfl (show kh (B++st) (fun a b=> (a.1 && b.1,w64 (a.2+b.2)))=B++kh st (fun a b=> (a.1 && b.1,w64 (a.2+b.2)))from twoV_app (two he))
 | 7=> exact Prod.ext rfl (show kh (B++st) (fun a b=> (a.1 ||b.1,w64 (a.2+b.2)))=B++kh st (fun a b=> (a.1 ||b.1,w64 (a.2+b.2)))from twoV_app (two he))
 | 8=> exact Prod.ext rfl (show kh (B++st) (fun a b=> (a.1 ||b.1,max a.2 b.2))=B++kh st (fun a b=> (a.1 ||b.1,max a.2 b.2))from twoV_app (two he))
 | 9=> exact Prod.ext rfl (show kh (B++st) (fun a b=> (a.1,w64 (a.2+b.2)))=B++kh st (fun a b=> (a.1,w64 (a.2+b.2)))from twoV_app (two he))
 | 10=> exact Prod.ext rfl (show kh (B++st) (fun a b=> (a.1 && !b.1,a.2))=B++kh st (fun a b=> (a.1 && !b.1,a.2))from twoV_app (two he))
 | 11=> exact Prod.ext rfl (show nu (B++st) (fun a=> (!a.1,0))=B++nu st (fun a=> (!a.1,0))from oneV_app (one he))
 | 12=> exact Prod.ext rfl (show nu (B++st) (fun a=> (a.1,w64 (a.2*A)))=B++nu st (fun a=> (a.1,w64 (a.2*A)))from oneV_app (one he))
 | 13=> exact Prod.ext rfl (show nu (B++st) (fun a=> if a.1=true then(true,w64 (A*262144))else(false,0))=B++nu st (fun a=> if a.1=true then(true,w64 (A*262144))else(false,0))from oneV_app (one he))
 | 14=>
  have hA:A≤st.length:=by
   by_cases h:st.length<A
   ·have he2:(if st.length<A then none else some (st.length - A+1))=some h':=he
    rw[if_pos h]at he2;cases he2
   ·omega
  refine Prod.ext rfl ?_
  show(B++st).take ((B++st).length - A)++ [_]=B++(st.take (st.length - A)++ [_])
  have e1:(B++st).length - A=B.length+(st.length - A):=aT
  have e2:(B++st).drop ((B++st).length - A)=st.drop (st.length - A):=by
   rw[e1,←List.drop_drop,List.drop_left]
  rw[e2,e1,List.take_append,List.take_of_length_le (aa),show B.length+(st.length - A) - B.length=st.length - A from aa,Yf]
 | 15=>
  refine Prod.ext ?_ rfl
  show(if(fR (B++st)).1=true then pc else pc+A)=_
  rw[topV_app (ne (one he))]
  all_goals rfl
 | 16=>
  refine Prod.ext ?_ rfl
  show(if(fR (B++st)).1=true then pc+A else pc)=_
  rw[topV_app (ne (one he))]
  all_goals rfl
 |n+17=> rfl
theorem opS_pc {c:Cfg}{pss:List (List Po)}{d pc s:Nat}{x:Ins}{st:List VV}:opS c pss d x (s+pc) st=(s+(opS c pss d x pc st).1,(opS c pss d x pc st).2):=by
 obtain⟨o,A,C⟩:=x
 match o with
 | 0=> rfl
 | 1=> rfl
 | 2=> rfl
 | 3=> rfl
 | 4=> rfl
 | 5=> rfl
 | 6=> rfl
 | 7=> rfl
 | 8=> rfl
 | 9=> rfl
 | 10=> rfl
 | 11=> rfl
 | 12=> rfl
 | 13=> rfl
 | 14=> rfl
 | 15=>
  refine Prod.ext ?_ rfl
  show(if(fR st).1=true then s+pc else s+pc+A)=s+(if(fR st).1=true then pc else pc+A)
  split <;> omega
 | 16=>
  refine Prod.ext ?_ rfl
  show(if(fR st).1=true then s+pc+A else s+pc)=s+(if(fR st).1=true then pc+A else pc)
  split <;> omega
 |n+17=> rfl
theorem opS_len {c:Cfg}{pss:List (List Po)}{d pc h':Nat}{x:Ins}{st:List VV}(he:iW x st.length=some h'):(opS c pss d x pc st).2.length=h':=by
 obtain⟨o,A,C⟩:=x
 have two:∀{f:VV→VV→VV},(if 2≤st.length then some (st.length - 1)else none)=some h'→(kh st f).length=h':=fun{f} hk=> by
  by_cases h:2≤st.length
  ·rw[if_pos h]at hk
   rw[←Option.some.inj hk]
   exact nB h
  ·rw[if_neg h]at hk;cases hk
 have one:∀{f:VV→VV},(if 1≤st.length then some st.length else none)=some h'→(nu st f).length=h':=fun{f} hk=> by
  by_cases h:1≤st.length
  ·rw[if_pos h]at hk
   rw[←Option.some.inj hk]
   exact tD h
  ·rw[if_neg h]at hk;cases hk
 have non:(if 1≤st.length then some st.length else none)=some h'→st.length=h':=fun hk=> by
  by_cases h:1≤st.length
  ·rw[if_pos h]at hk
   exact Option.some.inj hk
  ·rw[if_neg h]at hk;cases hk
 have psh:∀{v:VV},some (st.length+1)=some h'→(st++ [v]).length=h':=fun{v} hk=> by
  rw[Ya,List.length_singleton];exact Option.some.inj hk
 match o with
 | 0=>
  have h0:(if st.length=1 then some st.length else none)=some h':=he
  by_cases h:st.length=1
  ·rw[if_pos h]at h0;exact Option.some.inj h0
  ·rw[if_neg h]at h0;cases h0
 | 1=> exact psh he
 | 2=> exact psh he
 | 3=> exact psh he
 | 4=> exact psh he
 | 5=> exact psh he
 | 6=> exact two (f:=fun a b=> (a.1 && b.1,w64 (a.2+b.2))) he
 | 7=> exact two (f:=fun a b=> (a.1 ||b.1,w64 (a.2+b.2))) he
 | 8=> exact two (f:=fun a b=> (a.1 ||b.1,max a.2 b.2)) he
 | 9=> exact two (f:=fun a b=> (a.1,w64 (a.2+b.2))) he
 | 10=> exact two (f:=fun a b=> (a.1 && !b.1,a.2)) he
 | 11=> exact one (f:=fun a=> (!a.1,0)) he
 | 12=> exact one (f:=fun a=> (a.1,w64 (a.2*A))) he
 | 13=> exact one (f:=fun a=> if a.1=true then(true,w64 (A*262144))else(false,0)) he
 | 14=>
  have h0:(if st.length<A then none else some (st.length - A+1))=some h':=he
  by_cases h:st.length<A
  ·rw[if_pos h]at h0;cases h0
  ·rw[if_neg h]at h0
   have h1:=Option.some.inj h0
   show(st.take (st.length - A)++ [_]).length=h'
   rw[Ya,Yg,List.length_singleton]
   omega
 | 15=> exact non he
 | 16=> exact non he
 |n+17=> exact non he
theorem opS_to {c:Cfg}{pss:List (List Po)}{d pc:Nat}{x:Ins}{st:List VV}:(opS c pss d x pc st).1=pc∨(pg x=true∧(opS c pss d x pc st).1=pc+x.2.1):=by
 obtain⟨o,A,C⟩:=x
 match o with
 | 0=> exact .inl rfl
 | 1=> exact .inl rfl
 | 2=> exact .inl rfl
 | 3=> exact .inl rfl
 | 4=> exact .inl rfl
 | 5=> exact .inl rfl
 | 6=> exact .inl rfl
 | 7=> exact .inl rfl
 | 8=> exact .inl rfl
 | 9=> exact .inl rfl
 | 10=> exact .inl rfl
 | 11=> exact .inl rfl
 | 12=> exact .inl rfl
 | 13=> exact .inl rfl
 | 14=> exact .inl rfl
 | 15=>
  show(if(fR st).1=true then pc else pc+A)=pc∨_
  by_cases h:(fR st).1=true
  ·exact .inl (if_pos h)
  ·exact .inr ⟨rfl,if_neg h⟩
 | 16=>
  show(if(fR st).1=true then pc+A else pc)=pc∨_
  by_cases h:(fR st).1=true
  ·exact .inr ⟨rfl,if_pos h⟩
  ·exact .inl (if_neg h)
 |n+17=> exact .inl rfl
def runG (c:Cfg) (pss:List (List Po)) (d:Nat) (code:List Ins):Nat→Nat→List VV→VV
 | 0,_,st=> fR st
 |n+1,pc,st=>
  if(code.getD pc (0,0,0)).1=0 then fR st else
  runG c pss d code n (opS c pss d (code.getD pc (0,0,0)) (pc+1) st).1 (opS c pss d (code.getD pc (0,0,0)) (pc+1) st).2
theorem runS_g {c:Cfg}{pss:List (List Po)}{d:Nat}:∀(n pc:Nat) (st:List VV),runS c pss d n pc st=runG c pss d c.ins n pc st
 | 0,_,_=> rfl
 |n+1,pc,st=> by rw[runS,runG];unfold jR;rw[runS_g n]
theorem stepG_ok {c:Cfg}{pss:List (List Po)}{d i:Nat}{p:PrG}{a:List Ins}{g:Nat→Nat}{st:List VV}(hG:StepG p a g i) (hi:i<a.length) (h0:(a.getD i (0,0,0)).1≠0) (hst:st.length=g i):
 i<(opS c pss d (a.getD i (0,0,0)) (i+1) st).1∧(opS c pss d (a.getD i (0,0,0)) (i+1) st).1<a.length∧(opS c pss d (a.getD i (0,0,0)) (i+1) st).2.length=g (opS c pss d (a.getD i (0,0,0)) (i+1) st).1:=by
 have hl:=opS_len (c:=c) (pss:=pss) (d:=d) (pc:=i+1) (x:=a.getD i (0,0,0)) (st:=st) (by rw[hst];exact hG.eff)
 have hne:¬i+1=a.length:=fun e=> h0 (hG.last.1 e)
 rcases opS_to (c:=c) (pss:=pss) (d:=d) (pc:=i+1) (x:=a.getD i (0,0,0)) (st:=st)with h|⟨hJ,h⟩
 ·rw[h];exact⟨aa,aa,hl⟩
 ·obtain⟨j1,j2⟩:=hG.jump hJ
  rw[h]
  exact⟨aa,aa,by rw[hl,j2]⟩
theorem seg_run {c:Cfg}{pss:List (List Po)}{d s:Nat}{p:PrG}{a C:List Ins}{g:Nat→Nat}(hG:∀i,i<a.length→StepG p a g i) (hC:∀i,i+1<a.length→C.getD (s+i) (0,0,0)=a.getD i (0,0,0)):
 ∀(m i:Nat) (st:List VV),m+i+1=a.length→st.length=g i→∃v k,k≤m∧(∀n,m+1≤n→runG c pss d a n i st=v)∧∀B n,runG c pss d C (n+k) (s+i) (B++st)=runG c pss d C n (s+(a.length - 1)) (B++ [v]):=by
 intro m
 induction m using Nat.strongRecOn with
 |_ m ih=>
  intro i st hm hst
  have hg:=hG i (aa)
  by_cases h0:(a.getD i (0,0,0)).1=0
  ·have hlast:=hg.last.2 h0
   have he:=hg.eff
   have h1:st.length=1:=by
    generalize hx:a.getD i (0,0,0)=x at h0 he
    obtain⟨o,A,D⟩:=x
    dsimp only at h0
    subst h0
    have he':(if g i=1 then some (g i)else none)=some (g (i+1)):=he
    by_cases e:g i=1
    ·omega
    ·rw[if_neg e]at he';cases he'
   obtain⟨v,rfl⟩:=List.length_eq_one_iff.1 h1
   refine⟨v,0,Yl _,fun n hn=> ?_,fun B n=> ?_⟩
   ·obtain⟨n',rfl⟩:∃n',n=n'+1:=⟨n - 1,aa⟩
    rw[runG,if_pos h0];all_goals rfl
   ·rw[show i=a.length - 1 from aa];all_goals rfl
  ·obtain⟨s1,s2,s3⟩:=stepG_ok (c:=c) (pss:=pss) (d:=d) hg (aa) h0 hst
   have hne:¬i+1=a.length:=fun e=> h0 (hg.last.1 e)
   obtain⟨v,k,k1,k2,k3⟩:=ih (a.length - 1 - (opS c pss d (a.getD i (0,0,0)) (i+1) st).1) (aa) (opS c pss d (a.getD i (0,0,0)) (i+1) st).1 (opS c pss d (a.getD i (0,0,0)) (i+1) st).2 (aa) s3
   refine⟨v,k+1,aa,fun n hn=> ?_,fun B n=> ?_⟩
   ·obtain⟨n',rfl⟩:∃n',n=n'+1:=⟨n - 1,aa⟩
    rw[runG,if_neg h0]
    exact k2 n' (aa)
   ·rw[←Nat.add_assoc,runG,hC i (aa),if_neg h0,opS_app (by rw[hst];exact hg.eff),Nat.add_assoc s i 1,opS_pc]
    exact k3 B n
structure VOk (v:VV):Prop where
 z:v.1=false→v.2=0
 s:v.2<18446744073709551616
theorem w64_fit (n:Nat):w64 n<18446744073709551616:=Nat.mod_lt _ (ag)
theorem vok_f:VOk (false,0):=⟨fun _=> rfl,ag⟩
theorem vok_t {n:Nat}(h:n<18446744073709551616):VOk (true,n):=⟨fun e=> (by cases e),h⟩
def StOk (st:List VV):Prop:=∀v∈st,VOk v
theorem StOk.top {st:List VV}(h:StOk st):VOk (fR st):=by
 unfold fR
 cases e:st.getLast? with
 |none=> exact vok_f
 |some v=> exact h v (List.mem_of_getLast? e)
theorem StOk.drop {st:List VV}(h:StOk st):StOk st.dropLast:=fun v hv=> h v ((List.dropLast_sublist st).subset hv)
theorem StOk.snoc {st:List VV}(h:StOk st) {v:VV}(hv:VOk v):StOk (st++ [v]):=fun u hu=> by
 rcases List.mem_append.1 hu with hu|hu
 ·exact h u hu
 ·rw[List.mem_singleton.1 hu];exact hv
theorem StOk.two {st:List VV}(h:StOk st) {f:VV→VV→VV}(hf:∀a b,VOk a→VOk b→(f a b).2<18446744073709551616):StOk (kh st f):=by
 unfold kh
 refine h.drop.drop.snoc ⟨fun e=> ?_,?_⟩
 ·dsimp only at e⊢
  rw[e];all_goals rfl
 ·dsimp only
  split
  ·exact hf _ _ h.drop.top h.top
  ·decide
theorem StOk.one {st:List VV}(h:StOk st) {f:VV→VV}(hf:∀a,VOk a→VOk (f a)):StOk (nu st f):=h.drop.snoc (hf _ h.top)
theorem sum_lt:∀(st:List VV) (s:Nat),s<18446744073709551616→st.foldl (fun s v=> if v.1=true then w64 (s+v.2)else s) s<18446744073709551616
 | [],s,h=> h
 |v::l,s,h=> by
  rw[List.foldl_cons]
  refine sum_lt l _ ?_
  split
  ·exact w64_fit _
  ·exact h
theorem vok_if {b:Bool}{n:Nat}:VOk (if b=true then(true,w64 n)else(false,0)):=by
 cases b with
 |true=> exact vok_t (w64_fit _)
 |false=> exact vok_f
theorem opS_ok {c:Cfg}{pss:List (List Po)}{d pc:Nat}{x:Ins}{st:List VV}(h:StOk st):StOk (opS c pss d x pc st).2:=by
 obtain⟨o,A,C⟩:=x
 have sc:∀w f fd,VOk (tr c d w f fd):=fun w f fd=> vok_t (w64_fit _)
 match o with
 | 0=> exact h
 | 1=> exact h.snoc vok_f
 | 2=> exact h.snoc (vok_t (ag))
 | 3=>
  refine h.snoc ?_
  by_cases e:0<tN c.lens A d
  ·show VOk (if 0<tN c.lens A d then(true,262144)else(false,0))
   rw[if_pos e];exact vok_t (ag)
  ·show VOk (if 0<tN c.lens A d then(true,262144)else(false,0))
   rw[if_neg e];exact vok_f
 | 4=>
  refine h.snoc ?_
  show VOk (termS c pss d A C)
  unfold termS
  split
  ·exact sc _ _ _
  ·exact vok_f
 | 5=>
  refine h.snoc ?_
  show VOk (phraseS c pss d A C)
  unfold phraseS
  dsimp only
  split
  ·exact vok_f
  ·split
   ·exact vok_f
   ·exact sc _ _ _
 | 6=> exact StOk.two h (f:=fun a b=> (a.1 && b.1,w64 (a.2+b.2))) fun a b _ _=> w64_fit _
 | 7=> exact StOk.two h (f:=fun a b=> (a.1 ||b.1,w64 (a.2+b.2))) fun a b _ _=> w64_fit _
 | 8=> exact StOk.two h (f:=fun a b=> (a.1 ||b.1,max a.2 b.2)) fun a b ha hb=> Nat.max_lt.2 ⟨ha.s,hb.s⟩
 | 9=> exact StOk.two h (f:=fun a b=> (a.1,w64 (a.2+b.2))) fun a b _ _=> w64_fit _
 | 10=> exact StOk.two h (f:=fun a b=> (a.1 && !b.1,a.2)) fun a b ha _=> ha.s
 | 11=> exact StOk.one h (f:=fun a=> (!a.1,0)) fun a ha=> ⟨fun _=> rfl,Nat.zero_lt_succ _⟩
 | 12=> exact StOk.one h (f:=fun a=> (a.1,w64 (a.2*A))) fun a ha=> ⟨fun e=> by show w64 (a.2*A)=0;rw[ha.z e,Nat.zero_mul];all_goals rfl,w64_fit _⟩
 | 13=> exact StOk.one h (f:=fun a=> if a.1=true then(true,w64 (A*262144))else(false,0)) fun a ha=> vok_if
 | 14=>
  refine StOk.snoc (fun v hv=> h v (Yq hv)) ?_
  split
  ·exact vok_t (sum_lt _ 0 (ag))
  ·exact vok_f
 | 15=> exact h
 | 16=> exact h
 |n+17=> exact h
theorem runG_ok {c:Cfg}{pss:List (List Po)}{d:Nat}{C:List Ins}:∀(n pc:Nat) (st:List VV),StOk st→VOk (runG c pss d C n pc st)
 | 0,_,st,h=> h.top
 |n+1,pc,st,h=> by
  rw[runG]
  split
  ·exact h.top
  ·exact runG_ok n _ _ (opS_ok h)
def nrmV (v:VV):VV:=(v.1,if v.1=true then v.2 else 0)
def valS (op n:Nat) (a b:VV):VV:=match op with
 | 6=> nrmV (a.1 && b.1,w64 (a.2+b.2))
 | 7=> nrmV (a.1 ||b.1,w64 (a.2+b.2))
 | 8=> nrmV (a.1 ||b.1,max a.2 b.2)
 | 9=> nrmV (a.1,w64 (a.2+b.2))
 | 10=> nrmV (a.1 && !b.1,a.2)
 | 11=> (!a.1,0)
 | 12=> nrmV (a.1,w64 (a.2*n))
 | 13=> nrmV (a.1,w64 (n*262144))
 |_=> nrmV (a.1 && b.1,w64 (a.2+b.2))
variable {c:Cfg}{pss:List (List Po)}{d A C n:Nat}{a b:VV}
theorem val6:fR (opS c pss d (6,A,C) 0 [a,b]).2=valS 6 n a b:=rfl
theorem val7:fR (opS c pss d (7,A,C) 0 [a,b]).2=valS 7 n a b:=rfl
theorem val8:fR (opS c pss d (8,A,C) 0 [a,b]).2=valS 8 n a b:=rfl
theorem val9:fR (opS c pss d (9,A,C) 0 [a,b]).2=valS 9 n a b:=rfl
theorem val10:fR (opS c pss d (10,A,C) 0 [a,b]).2=valS 10 n a b:=rfl
theorem val11:fR (opS c pss d (11,A,C) 0 [a]).2=valS 11 n a b:=rfl
theorem val12 (ha:VOk a):fR (opS c pss d (12,n,C) 0 [a]).2=valS 12 n a b:=by
 show(a.1,w64 (a.2*n))=nrmV (a.1,w64 (a.2*n))
 obtain⟨x,s⟩:=a
 cases x with
 |true=> rfl
 |false=>
  have:=ha.z rfl
  dsimp only at this
  subst this
  show(false,w64 (0*n))=(false,0)
  rw[Nat.zero_mul];all_goals rfl
theorem val13:fR (opS c pss d (13,n,C) 0 [a]).2=valS 13 n a b:=by
 obtain⟨x,s⟩:=a
 cases x <;> rfl
theorem val14 (ha:VOk a):fR (opS c pss d (14,2,2) 0 [a,b]).2=valS 14 n a b:=by
 have h1:=ha.s
 obtain⟨x,s⟩:=a
 obtain⟨y,t⟩:=b
 cases x <;> cases y
 ·rfl
 ·rfl
 ·rfl
 ·show(true,w64 (w64 (0+s)+t))=(true,w64 (s+t))
  dsimp only at h1
  rw[Nat.zero_add,show w64 s=s from Nat.mod_eq_of_lt h1]
end Go.Sx
namespace Go.Sx
open Go
def skipB (hs:List Hit) (at_:Nat) (id:Int):Nat:=at_+(hs.drop at_).findIdx fun h=> decide (id≤h.1)
def tellB (hs:List Hit) (at_:Nat) (id:Int):VV:=match hs[at_]? with
 |some h=> if h.1=id then(true,h.2)else(false,0)
 |none=> (false,0)
def BookAt (ids:Nat→Int) (f:Nat→VV) (D:List Nat) (hs:List Hit) (at_:Nat):Prop:=
 at_≤hs.length∧∃e:List Hit,hs.drop at_=e++D.filterMap (fun d=> if(f d).1=true then some (ids d,(f d).2)else none)∧∀h∈e,∀d∈D,h.1<ids d
theorem findIdx_app {α:Type}{p:α→Bool}:∀{e r:List α},(∀x∈e,p x=false)→(e++r).findIdx p=e.length+r.findIdx p
 | [],r,_=> an
 |a::e,r,h=> by
  rw[Yd,List.findIdx_cons,h a (List.mem_cons_self ..),findIdx_app fun x hx=> h x (Xa _ hx),Yb]
  simp only[cond_false]
  omega
theorem findIdx_hd {α:Type}{p:α→Bool}{r:List α}(h:∀x,r.head? =some x→p x=true):r.findIdx p=0:=by
 cases r with
 |nil=> rfl
 |cons a r=> rw[List.findIdx_cons,h a rfl];all_goals rfl
theorem book_start {ids:Nat→Int}{f:Nat→VV}{D:List Nat}{hs:List Hit}(h:hs=D.filterMap (fun d=> if(f d).1=true then some (ids d,(f d).2)else none)):BookAt ids f D hs 0:=⟨Yl _, [],by rw[List.drop_zero,Ye];exact h,fun x hx=> by cases hx⟩
theorem book_step {ids:Nat→Int}{f:Nat→VV}{d:Nat}{D:List Nat}{hs:List Hit}{at_:Nat}(h:BookAt ids f (d::D) hs at_) (hup:∀e∈D,ids d<ids e) (hz:(f d).1=false→(f d).2=0):
 tellB hs (skipB hs at_ (ids d)) (ids d)=f d∧BookAt ids f D hs (skipB hs at_ (ids d)):=by
 obtain⟨hl,e,h1,h2⟩:=h
 have hlen:(hs.drop at_).length=hs.length - at_:=Yo
 have he:∀x∈e,decide (ids d≤x.1)=false:=fun x hx=> Yr (by have:=h2 x hx d (List.mem_cons_self ..);omega)
 have hrest:∀x∈D.filterMap (fun d=> if(f d).1=true then some (ids d,(f d).2)else none),ids d<x.1:=fun x hx=> by
  obtain⟨b,hb,hbx⟩:=List.mem_filterMap.1 hx
  split at hbx
  ·obtain rfl:=Option.some.inj hbx
   exact hup b hb
  ·cases hbx
 cases hv:(f d).1 with
 |true=>
  rw[List.filterMap_cons,if_pos hv]at h1
  dsimp only at h1
  have hs1:skipB hs at_ (ids d)=at_+e.length:=by
   rw[skipB,h1,findIdx_app he,findIdx_hd fun x hx=> by obtain rfl:=Option.some.inj hx;exact Ys (Int.le_refl _)]
   all_goals rfl
  have hdr:hs.drop (at_+e.length)=(ids d,(f d).2)::D.filterMap (fun d=> if(f d).1=true then some (ids d,(f d).2)else none):=by
   rw[←List.drop_drop,h1,List.drop_left]
  have hg:hs[at_+e.length]? =some (ids d,(f d).2):=by
   have:=congrArg (fun l=> l[0]?) hdr
   simp only[Xh,Nat.add_zero,Xb]at this
   exact this
  rw[hs1]
  refine⟨?_,?_, [(ids d,(f d).2)],?_,fun x hx b hb=> ?_⟩
  ·rw[tellB,hg]
   dsimp only
   rw[if_pos rfl]
   exact Prod.ext hv.symm rfl
  ·have:=(Yk.1 hg).1;omega
  ·rw[hdr];all_goals rfl
  ·obtain rfl:=List.mem_singleton.1 hx
   exact hup b hb
 |false=>
  rw[List.filterMap_cons,if_neg (by rw[hv];decide)]at h1
  dsimp only at h1
  have hs1:skipB hs at_ (ids d)=at_+e.length:=by
   rw[skipB,h1,findIdx_app he,findIdx_hd fun x hx=> Ys (by have:=hrest x (List.mem_of_mem_head? hx);omega)]
   all_goals rfl
  have hdr:hs.drop (at_+e.length)=D.filterMap (fun d=> if(f d).1=true then some (ids d,(f d).2)else none):=by
   rw[←List.drop_drop,h1,List.drop_left]
  have hle:e.length≤(hs.drop at_).length:=by rw[h1,Ya];omega
  rw[hs1]
  refine⟨?_,aa, [],by rw[hdr];all_goals rfl,fun x hx=> by cases hx⟩
  have hfd:f d=(false,0):=Prod.ext hv (hz hv)
  rw[tellB,hfd]
  cases hg:hs[at_+e.length]? with
  |none=> rfl
  |some x=>
   dsimp only
   have hm:x∈hs.drop (at_+e.length):=Yj (i:=0) (by rw[Xh,Nat.add_zero];exact hg)
   rw[hdr]at hm
   rw[if_neg (by have:=hrest x hm;omega)]
theorem skipB_step {hs:List Hit}{at_:Nat}{id:Int}{h:Hit}(hg:hs[at_]? =some h):skipB hs at_ id=if h.1<id then skipB hs (at_+1) id else at_:=by
 have hd:hs.drop at_=h::hs.drop (at_+1):=by
  obtain⟨hl,rfl⟩:=Yk.1 hg
  exact List.drop_eq_getElem_cons hl
 rw[skipB,hd,List.findIdx_cons]
 by_cases hc:id≤h.1
 ·rw[Ys hc,if_neg (aa)];all_goals rfl
 ·rw[Yr hc,if_pos (aa),skipB]
  simp only[cond_false]
  omega
theorem skipB_end {hs:List Hit}{at_:Nat}{id:Int}(h:hs.length≤at_):skipB hs at_ id=at_:=by
 rw[skipB,List.drop_eq_nil_of_le h];all_goals rfl
def argB:Nat→Nat→Nat→List Nat
 | 0,_,_=> []
 | 1,a,_=> uv a
 |_+2,a,b=> uv a++uv b
def encX (x:Ins):List Nat:=x.1::argB ((ni x.1).getD 0) x.2.1 x.2.2
def encC (l:List Ins):List Nat:=l.flatMap encX
structure InsE (x:Ins):Prop where
 n:∃k,ni x.1=some k∧k≤2∧(k<1→x.2.1=0)∧(k<2→x.2.2=0)
 a:x.2.1<18446744073709551616
 b:x.2.2<18446744073709551616
theorem dec_one {x:Ins}(h:InsE x) (f:Nat) (r:List Nat):lq (f+1) (encX x++r)=(lq f r).map (x:: ·):=by
 obtain⟨k,hk,hk2,h1,h2⟩:=h.n
 obtain⟨o,A,B⟩:=x
 dsimp only at hk h1 h2
 have ha:=h.a
 have hb:=h.b
 dsimp only at ha hb
 unfold encX
 dsimp only
 rw[Yd,lq,hk,Option.getD_some]
 dsimp only
 match k,hk2 with
 | 0,_=>
  obtain rfl:=h1 (aa)
  obtain rfl:=h2 (aa)
  rw[show argB 0 0 0= []from rfl,Ye,n6]
  dsimp only
  cases lq f r <;> rfl
 | 1,_=>
  obtain rfl:=h2 (aa)
  rw[show argB 1 A 0=uv A from rfl,n6,pV r ha]
  dsimp only
  rw[n6,List.drop_left]
  dsimp only
  cases lq f r <;> rfl
 | 2,_=>
  rw[show argB 2 A B=uv A++uv B from rfl,Yf,n6,pV _ ha]
  dsimp only
  rw[n6,List.drop_left,pV _ hb]
  dsimp only
  rw[n6,List.drop_left]
  dsimp only
  cases lq f r <;> rfl
theorem dec_enc:∀(l:List Ins) (f:Nat),(∀x∈l,InsE x)→l.length≤f→lq f (encC l)=some l
 | [],f,_,_=> by cases f <;> rfl
 |x::l,0,_,h=> aG
 |x::l,f+1,h,hf=> by
  show lq (f+1) (encX x++encC l)=_
  rw[dec_one (h x (List.mem_cons_self ..)),dec_enc l f (fun y hy=> h y (Xa _ hy)) (by simpa using hf)]
  all_goals rfl
theorem encX_pos (x:Ins):1≤(encX x).length:=by unfold encX;rw[Yb];omega
theorem encC_len:∀(l:List Ins),l.length≤(encC l).length
 | []=> Nat.le_refl _
 |x::l=> by
  have:=encC_len l
  have:=encX_pos x
  show l.length+1≤(encX x++encC l).length
  rw[Ya]
  omega
theorem code_enc {p:PrG}{l:List Ins}(h:∀x∈l,InsE x):lr {p with code:=encC l}=some l:=dec_enc l _ h (encC_len l)
theorem getD_left {a r:List Ins}{i:Nat}(h:i+1<a.length):(a.dropLast++r).getD i (0,0,0)=a.getD i (0,0,0):=by
 rw[List.getD_eq_getElem?_getD,Yv (by rw[List.length_dropLast];omega),List.getElem?_dropLast,if_pos (aa),←List.getD_eq_getElem?_getD]
theorem getD_right {a r:List Ins}{i:Nat}:(a.dropLast++r).getD (a.length - 1+i) (0,0,0)=r.getD i (0,0,0):=by
 rw[List.getD_eq_getElem?_getD,Yu (by rw[List.length_dropLast];omega),List.length_dropLast,show a.length - 1+i - (a.length - 1)=i from aa,←List.getD_eq_getElem?_getD]
theorem runG_end {c:Cfg}{pss:List (List Po)}{d n pc:Nat}{C:List Ins}{st:List VV}(h:(C.getD pc (0,0,0)).1=0):runG c pss d C n pc st=fR st:=by
 cases n with
 |zero=> rfl
 |succ n=> rw[runG,if_pos h]
theorem tail_run {c:Cfg}{pss:List (List Po)}{d n pc:Nat}{C:List Ins}{x:Ins}{st:List VV}(hx:C.getD pc (0,0,0)=x) (hx0:x.1≠0) (hJ:pg x=false) (he:(C.getD (pc+1) (0,0,0)).1=0):runG c pss d C (n+1) pc st=fR (opS c pss d x 0 st).2:=by
 rw[runG,hx,if_neg hx0]
 have h1:(opS c pss d x (pc+1) st).1=pc+1:=by
  rcases opS_to (c:=c) (pss:=pss) (d:=d) (pc:=pc+1) (x:=x) (st:=st)with h|⟨h,_⟩
  ·exact h
  ·rw[hJ]at h;cases h
 have h2:(opS c pss d x (pc+1) st).2=(opS c pss d x 0 st).2:=by
  have:=opS_pc (c:=c) (pss:=pss) (d:=d) (s:=pc+1) (pc:=0) (x:=x) (st:=st)
  rw[Nat.add_zero]at this
  rw[this]
 rw[h1,h2]
 exact runG_end he
theorem join_one {c:Cfg}{pss:List (List Po)}{d:Nat}{p:PrG}{a:List Ins}{ga:Nat→Nat}{x:Ins}(ha0:0<a.length) (hg0:ga 0=0) (hGa:∀i,i<a.length→StepG p a ga i) (hx0:x.1≠0) (hJ:pg x=false):
 runG c pss d (a.dropLast++ [x,(0,0,0)]) (a.dropLast++ [x,(0,0,0)]).length 0 []=fR (opS c pss d x 0 [runG c pss d a a.length 0 []]).2:=by
 obtain⟨v,k,k1,k2,k3⟩:=seg_run (c:=c) (pss:=pss) (d:=d) (s:=0) (C:=a.dropLast++ [x,(0,0,0)]) hGa (fun i hi=> by rw[Nat.zero_add];exact getD_left hi) (a.length - 1) 0 [] (aa) hg0.symm
 have hv:=k2 a.length (aa)
 have hL:(a.dropLast++ [x,(0,0,0)]).length=(a.length - 1 - k+1+1)+k:=by rw[Ya,List.length_dropLast];simp only[Yb,Yc];omega
 have h4:=k3 [] (a.length - 1 - k+1+1)
 rw[Ye,Ye]at h4
 rw[hv,hL,h4,Nat.zero_add]
 refine tail_run ?_ hx0 hJ ?_
 ·have:=getD_right (a:=a) (r:= [x,(0,0,0)]) (i:=0)
  rw[Nat.add_zero]at this
  rw[this];all_goals rfl
 ·rw[getD_right (a:=a) (r:= [x,(0,0,0)]) (i:=1)];all_goals rfl
theorem join_two {c:Cfg}{pss:List (List Po)}{d:Nat}{p:PrG}{a b:List Ins}{ga gb:Nat→Nat}{x:Ins}(ha0:0<a.length) (hb0:0<b.length) (hg0:ga 0=0) (hg1:gb 0=0) (hGa:∀i,i<a.length→StepG p a ga i) (hGb:∀i,i<b.length→StepG p b gb i) (hx0:x.1≠0) (hJ:pg x=false):
 runG c pss d (a.dropLast++(b.dropLast++ [x,(0,0,0)])) (a.dropLast++(b.dropLast++ [x,(0,0,0)])).length 0 []=fR (opS c pss d x 0 [runG c pss d a a.length 0 [],runG c pss d b b.length 0 []]).2:=by
 obtain⟨v,k,k1,k2,k3⟩:=seg_run (c:=c) (pss:=pss) (d:=d) (s:=0) (C:=a.dropLast++(b.dropLast++ [x,(0,0,0)])) hGa (fun i hi=> by rw[Nat.zero_add];exact getD_left hi) (a.length - 1) 0 [] (aa) hg0.symm
 obtain⟨w,l,l1,l2,l3⟩:=seg_run (c:=c) (pss:=pss) (d:=d) (s:=a.length - 1) (C:=a.dropLast++(b.dropLast++ [x,(0,0,0)])) hGb (fun i hi=> by rw[getD_right];exact getD_left hi) (b.length - 1) 0 [] (aa) hg1.symm
 have hv:=k2 a.length (aa)
 have hw:=l2 b.length (aa)
 obtain⟨N,hN⟩:∃N,N=a.length - 1 - k+(b.length - 1 - l)+1:=⟨_,rfl⟩
 have hL:(a.dropLast++(b.dropLast++ [x,(0,0,0)])).length=(N+1)+l+k:=by rw[Ya,Ya,List.length_dropLast,List.length_dropLast];simp only[Yb,Yc];omega
 have h4:=k3 [] ((N+1)+l)
 have h5:runG c pss d (a.dropLast++(b.dropLast++ [x,(0,0,0)])) ((N+1)+l) (a.length - 1) [v]=runG c pss d (a.dropLast++(b.dropLast++ [x,(0,0,0)])) (N+1) (a.length - 1+(b.length - 1)) [v,w]:=l3 [v] (N+1)
 rw[Ye,Ye]at h4
 rw[hv,hw,hL,h4,Nat.zero_add,h5]
 refine tail_run ?_ hx0 hJ ?_
 ·have:=getD_right (a:=a) (r:=b.dropLast++ [x,(0,0,0)]) (i:=b.length - 1)
  rw[this]
  have:=getD_right (a:=b) (r:= [x,(0,0,0)]) (i:=0)
  rw[Nat.add_zero]at this
  rw[this];all_goals rfl
 ·rw[Nat.add_assoc,getD_right (a:=a) (r:=b.dropLast++ [x,(0,0,0)]) (i:=b.length - 1+1),getD_right (a:=b) (r:= [x,(0,0,0)]) (i:=1)];all_goals rfl
structure StepM (p:PrG) (a:List Ins) (g:Nat→Nat) (i:Nat):Prop where
 eff:iW (a.getD i (0,0,0)) (g i)=some (g (i+1))
 nz:(a.getD i (0,0,0)).1≠0
 oper:p9 p (a.getD i (0,0,0))=true
 jump:pg (a.getD i (0,0,0))=true→(a.getD i (0,0,0)).2.1≤a.length - 2 - i∧g (i+1+(a.getD i (0,0,0)).2.1)=g (i+1)
theorem StepG.mid {p:PrG}{a:List Ins}{g:Nat→Nat}{i:Nat}(h:StepG p a g i) (hi:i+1<a.length):StepM p a g i:=
 ⟨h.eff,fun e=> by have:=h.last.2 e;omega,h.oper,h.jump⟩
theorem effV_up {x:Ins}{h h':Nat}(h0:x.1≠0) (he:iW x h=some h'):iW x (1+h)=some (1+h'):=by
 obtain⟨o,A,C⟩:=x
 have psh:some (h+1)=some h'→some (1+h+1)=some (1+h'):=fun e=> by
  have:=Option.some.inj e
  congr 1
  omega
 have two:(if 2≤h then some (h - 1)else none)=some h'→(if 2≤1+h then some (1+h - 1)else none)=some (1+h'):=fun e=> by
  by_cases h2:2≤h
  ·rw[if_pos h2]at e
   have:=Option.some.inj e
   rw[if_pos (aa)]
   congr 1
   omega
  ·rw[if_neg h2]at e;cases e
 have one:(if 1≤h then some h else none)=some h'→(if 1≤1+h then some (1+h)else none)=some (1+h'):=fun e=> by
  by_cases h2:1≤h
  ·rw[if_pos h2]at e
   have:=Option.some.inj e
   rw[if_pos (aa)]
   congr 1
   omega
  ·rw[if_neg h2]at e;cases e
 match o with
 | 0=> exact absurd rfl h0
 | 1=> exact psh he
 | 2=> exact psh he
 | 3=> exact psh he
 | 4=> exact psh he
 | 5=> exact psh he
 | 6=> exact two he
 | 7=> exact two he
 | 8=> exact two he
 | 9=> exact two he
 | 10=> exact two he
 | 11=> exact one he
 | 12=> exact one he
 | 13=> exact one he
 | 14=>
  have he':(if h<A then none else some (h - A+1))=some h':=he
  show(if 1+h<A then none else some (1+h - A+1))=some (1+h')
  by_cases h2:h<A
  ·rw[if_pos h2]at he';cases he'
  ·rw[if_neg h2]at he'
   have:=Option.some.inj he'
   rw[if_neg (aa)]
   congr 1
   omega
 | 15=> exact one he
 | 16=> exact one he
 |n+17=> exact one he
theorem StepM.up {p:PrG}{a:List Ins}{g:Nat→Nat}{i:Nat}(h:StepM p a g i):StepM p a (fun j=> 1+g j) i:=
 ⟨effV_up h.nz h.eff,h.nz,h.oper,fun hJ=> ⟨(h.jump hJ).1,by have:=(h.jump hJ).2;omega⟩⟩
theorem step_app {p:PrG}{a r:List Ins}{g gr:Nat→Nat}(ha:0<a.length) (hr:1<r.length) (hA:∀i,i+1<a.length→StepM p a g i) (hR:∀i,i<r.length→StepG p r gr i) (hm:g (a.length - 1)=gr 0):
 ∀i,i<(a.dropLast++r).length→StepG p (a.dropLast++r) (fun j=> if j≤a.length - 1 then g j else gr (j - (a.length - 1))) i:=by
 intro i hi
 have hlen:(a.dropLast++r).length=a.length - 1+r.length:=by rw[Ya,List.length_dropLast]
 rw[hlen]at hi
 by_cases h:i+1<a.length
 ·have hs:=hA i h
  have e:=getD_left (r:=r) h
  refine⟨?_,?_,by rw[e];exact hs.oper,fun hJ=> ?_⟩
  ·rw[e]
   rw[if_pos (aa),if_pos (aa)]
   exact hs.eff
  ·rw[e,hlen]
   exact⟨fun h2=> aa,fun h2=> absurd h2 hs.nz⟩
  ·rw[e]at hJ⊢
   obtain⟨j1,j2⟩:=hs.jump hJ
   refine⟨by rw[hlen];omega,?_⟩
   rw[if_pos (aa),if_pos (aa)]
   exact j2
 ·obtain⟨j,rfl⟩:∃j,i=a.length - 1+j:=⟨i - (a.length - 1),aa⟩
  have hs:=hR j (aa)
  have e:=getD_right (a:=a) (r:=r) (i:=j)
  have hg:∀q,(if a.length - 1+q≤a.length - 1 then g (a.length - 1+q)else gr (a.length - 1+q - (a.length - 1)))=gr q:=fun q=> by
   by_cases h0:q=0
   ·subst h0;rw[if_pos (aa)];exact hm
   ·rw[if_neg (aa),show a.length - 1+q - (a.length - 1)=q from aa]
  refine⟨?_,?_,by rw[e];exact hs.oper,fun hJ=> ?_⟩
  ·rw[e]
   rw[hg j,Nat.add_assoc,hg (j+1)]
   exact hs.eff
  ·rw[e,hlen]
   have:=hs.last
   constructor
   ·intro h2;exact this.1 (aa)
   ·intro h2;have:=this.2 h2;omega
  ·rw[e]at hJ⊢
   obtain⟨j1,j2⟩:=hs.jump hJ
   refine⟨by rw[hlen];omega,?_⟩
   rw[Nat.add_assoc (a.length - 1) j 1,hg (j+1),Nat.add_assoc,hg]
   exact j2
theorem end_one {p:PrG}{a:List Ins}{g:Nat→Nat}(ha:0<a.length) (hG:∀i,i<a.length→StepG p a g i):g (a.length - 1)=1:=by
 have hs:=hG (a.length - 1) (aa)
 have h0:=hs.last.1 (aa)
 have he:=hs.eff
 generalize a.getD (a.length - 1) (0,0,0)=x at h0 he
 obtain⟨o,A,D⟩:=x
 dsimp only at h0
 subst h0
 have he':(if g (a.length - 1)=1 then some (g (a.length - 1))else none)=some (g (a.length - 1+1)):=he
 by_cases e:g (a.length - 1)=1
 ·exact e
 ·rw[if_neg e]at he';cases he'
theorem tail_g {p:PrG}{x:Ins}{h:Nat}(he:iW x h=some 1) (hx0:x.1≠0) (hJ:pg x=false) (ho:p9 p x=true):∀i,i< [x,(0,0,0)].length→StepG p [x,(0,0,0)] (fun j=> if j=0 then h else 1) i:=by
 intro i hi
 match i,hi with
 | 0,_=> exact⟨he,⟨fun e=> by simp at e,fun e=> absurd e hx0⟩,ho,fun e=> by rw[show([x,(0,0,0)]:List Ins).getD 0 (0,0,0)=x from rfl,hJ]at e;cases e⟩
 | 1,_=> exact⟨rfl,⟨fun _=> rfl,fun _=> rfl⟩,rfl,fun e=> by cases e⟩
theorem one_g {p:PrG}{a:List Ins}{ga:Nat→Nat}{x:Ins}(ha:0<a.length) (hG:∀i,i<a.length→StepG p a ga i) (h0:ga 0=0) (he:iW x 1=some 1) (hx0:x.1≠0) (hJ:pg x=false) (ho:p9 p x=true):
 ∃g:Nat→Nat,g 0=0∧∀i,i<(a.dropLast++ [x,(0,0,0)]).length→StepG p (a.dropLast++ [x,(0,0,0)]) g i:=by
 refine⟨_,?_,step_app (g:=ga) (gr:=fun j=> if j=0 then 1 else 1) ha (Nat.lt_succ_self 1) (fun i hi=> (hG i (aa)).mid hi) (tail_g he hx0 hJ ho) (end_one ha hG)⟩
 show(if 0≤a.length - 1 then ga 0 else _)=0
 rw[if_pos (Yl _)];exact h0
theorem two_g {p:PrG}{a b:List Ins}{ga gb:Nat→Nat}{x:Ins}(ha:0<a.length) (hb:0<b.length) (hG:∀i,i<a.length→StepG p a ga i) (hGb:∀i,i<b.length→StepG p b gb i) (h0:ga 0=0) (h1:gb 0=0) (he:iW x 2=some 1) (hx0:x.1≠0) (hJ:pg x=false) (ho:p9 p x=true):
 ∃g:Nat→Nat,g 0=0∧∀i,i<(a.dropLast++(b.dropLast++ [x,(0,0,0)])).length→StepG p (a.dropLast++(b.dropLast++ [x,(0,0,0)])) g i:=by
 have hB:=step_app (p:=p) (a:=b) (r:= [x,(0,0,0)]) (g:=fun j=> 1+gb j) (gr:=fun j=> if j=0 then 2 else 1) hb (Nat.lt_succ_self 1) (fun i hi=> ((hGb i (aa)).mid hi).up) (tail_g he hx0 hJ ho) (by show 1+gb (b.length - 1)=2;rw[end_one hb hGb])
 refine⟨_,?_,step_app (g:=ga) ha (by rw[Ya];simp only[Yb,Yc];omega) (fun i hi=> (hG i (aa)).mid hi) hB ?_⟩
 ·show(if 0≤a.length - 1 then ga 0 else _)=0
  rw[if_pos (Yl _)];exact h0
 ·show ga (a.length - 1)=if 0≤b.length - 1 then 1+gb 0 else _
  rw[if_pos (Yl _),end_one ha hG,h1]
theorem StepG.code {p:PrG}{a:List Ins}{g:Nat→Nat}{i:Nat}(k:List Nat) (h:StepG p a g i):StepG {p with code:=k} a g i:=⟨h.eff,h.last,h.oper,h.jump⟩
end Go.Sx
