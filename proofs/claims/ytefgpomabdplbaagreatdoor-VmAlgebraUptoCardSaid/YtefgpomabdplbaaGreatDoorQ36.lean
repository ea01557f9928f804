import Derived.Test.YtefgpomabdplbaaGreatDoorQ34
set_option linter.unusedVariables false
set_option linter.unusedSimpArgs false
set_option linter.unusedSectionVars false
set_option linter.unnecessarySimpa false
set_option maxHeartbeats 0
namespace Go.Sx
open Go Go.Proofs
set_option maxRecDepth 100000
theorem all_nil {c:Cfg}{f:Nat}{s S:MS}(h:kS c (f+1) s=([],S)):dV c s=(none,S):=by
 rw[kS]at h
 cases hn:(dV c s).1 with
 |none=>
  rw[hn]at h
  have h2:(dV c s).2=S:=congrArg Prod.snd h
  exact Prod.ext hn h2
 |some x=>
  rw[hn]at h
  have h1:=congrArg Prod.fst h
  cases h1
theorem all_cons {c:Cfg}{f:Nat}{s S:MS}{x:Hit}{r:List Hit}(h:kS c (f+1) s=(x::r,S)):(dV c s).1=some x∧kS c f (dV c s).2=(r,S):=by
 rw[kS]at h
 cases hn:(dV c s).1 with
 |none=>
  rw[hn]at h
  have h1:=congrArg Prod.fst h
  cases h1
 |some y=>
  rw[hn]at h
  have h1:=congrArg Prod.fst h
  have h2:=congrArg Prod.snd h
  simp only[List.cons.injEq]at h1 h2
  exact⟨by rw[h1.1],Prod.ext h1.2 h2⟩
theorem HH {c:Cfg}{f:Nat}{s:MS}{x:Hit}(h:(dV c s).1=some x):kS c (f+1) s=(x::(kS c f (dV c s).2).1,(kS c f (dV c s).2).2):=by rw[kS,h]
theorem HI {c:Cfg}{f:Nat}{s:MS}(h:(dV c s).1=none):kS c (f+1) s=([],(dV c s).2):=by rw[kS,h]
structure uE (c:Cfg) (f:Nat) (s:MS):Prop where
 one:1≤f
 in_:(c.ids.length:Int)≤((f:Nat):Int)+s.pl
theorem pA {c:Cfg}{s:MS}(h: -1≤s.pl):uE c (c.ids.length+1) s:=⟨aa,aa⟩
theorem uE.next {c:Cfg}{pss:List (List Po)}{f:Nat}{s:MS}{x:Hit}(hl:uE c (f+1) s) (hdr:l3 c pss.length) (hn:c.ids.length≤2147483647) (h:jO c pss s) (hx:(dV c s).1=some x):uE c f (dV c s).2:=by
 obtain⟨h1,h2,h3,h4⟩:=qd hdr hn (c.ids.length+1) s h
 have h5:=h4 (by intro h9;rw[show(qU c (c.ids.length+1) s).1=(dV c s).1 from rfl,hx]at h9;cases h9)
 have h6:=hl.in_
 unfold dV
 exact⟨aa,aa⟩
theorem tJ {c:Cfg}{pss:List (List Po)}{s:MS}(hdr:l3 c pss.length) (hn:c.ids.length≤2147483647) (h:jO c pss s):jO c pss (dV c s).2∧s.steps≤(dV c s).2.steps:=
 let ⟨h1,h2,_,_⟩:=qd hdr hn (c.ids.length+1) s h
 ⟨h1,h2⟩
def iQ (p:PrG) (q:PtD):List (List Po):=p.curs.map fun c=> qn q.fs q.ds c.1.toNat c.2
def nv (p:PrG) (q:PtD):Except Nat (List Ins):=match gD p with
 |none=> .error 20
 |some _=> if q.fs.length=p.avgs.length then(match lr p with
  |none=> .error 20
  |some ins=> .ok ins)else .error 9
theorem JD {p:PrG}{q:PtD}{ins:List Ins}(h:nv p q= .ok ins):(∃tb,gD p=some tb∧zL p ins tb)∧q.fs.length=p.avgs.length∧lr p=some ins:=by
 unfold nv at h
 cases hc:gD p with
 |none=> rw[hc]at h;cases h
 |some tb=>
  rw[hc]at h
  simp only at h
  split at h
  ·rename_i hl
   cases hd:lr p with
   |none=> rw[hd]at h;cases h
   |some l=>
    rw[hd]at h
    cases h
    obtain⟨code,h2⟩:=vX hc
    have h1:=h2.dec
    rw[hd]at h1
    cases h1
    exact⟨⟨tb,rfl,h2⟩,hl,rfl⟩
  ·cases h
theorem L8:∀{l:List Po}{nb:Nat},fW nb l→∀(i j:Nat) (p q:Po),i<j→l[i]? =some p→l[j]? =some q→p.1<q.1
 | [],_,_,i,j,p,q,_,h,_=> aG
 |a::l,nb,hk,i,j,p,q,hij,hp,hq=> by
  obtain⟨j,rfl⟩:∃k,j=k+1:=⟨j - 1,aa⟩
  rw[Xc]at hq
  cases i with
  |zero=>
   simp at hp;subst hp
   have h1:=(ij hk.2.2.2 hq).1
   have h2:a.1+1≤dS (a.1+1) (l.take j):=by
    rcases Nat.eq_zero_or_pos j with rfl|hj
    ·simp[lQ]
    ·refine Nat.le_of_lt (tO (nb:=0) (qO j hk.2.2.2) ?_)
     intro e
     have e2:=congrArg List.length e
     rw[Yg,Yc]at e2
     have e3:=(Yk.1 hq).1
     omega
   omega
  |succ i=>
   rw[Xc]at hp
   exact L8 hk.2.2.2 i j p q (aa) hp hq
theorem Jp {l:List Po}(h:fW 0 l) {j:Nat}{p:Po}(hp:l[j]? =some p):p.1≤(iZ l (j / 16)).1:=by
 have hj:=(Yk.1 hp).1
 obtain⟨hb1,hb2,hb3⟩:=HA hj
 have hbn:=kQ hb1
 obtain⟨q,hq⟩:∃q,(de l (j / 16))[(de l (j / 16)).length - 1]? =some q:=⟨_,Yi (aa)⟩
 have h1:=zu h hb1 hq
 have h2:l[16*(j / 16)+((de l (j / 16)).length - 1)]? =some q:=by rw[←w2 (aa)];exact hq
 show p.1≤(cO l (j / 16+1)).1 - 1
 rcases Nat.lt_or_ge j (16*(j / 16)+((de l (j / 16)).length - 1))with h3|h3
 ·have:=L8 h _ _ _ _ h3 hp h2;omega
 ·have:j=16*(j / 16)+((de l (j / 16)).length - 1):=by omega
  rw[this]at hp
  rw[hp]at h2;cases h2;omega
theorem Oc {l:List Po}(h:fW 0 l) (hs:e8 l) {i j:Nat}(hij:i≤j) (hj:j<dk l):(iZ l i).1≤(iZ l j).1:=by
 have key:∀d,i+d<dk l→(cO l (i+1)).1≤(cO l (i+d+1)).1:=by
  intro d
  induction d with
  |zero=> intro _;exact Nat.le_refl _
  |succ d ih=>
   intro hd
   have h1:=ih (aa)
   have h2:=q9 h (k:=i+d+1) (aa)
   rw[show i+(d+1)+1=i+d+1+1 from aa];omega
 have h3:=key (j - i) (aa)
 rw[show i+(j - i)+1=j+1 from aa]at h3
 show(cO l (i+1)).1 - 1≤(cO l (j+1)).1 - 1
 omega
theorem KX {G:cK}{H:cG}{b:Nat}{d:Int}{l:List Value} [hv:cQ H b (.int .i64 d::l)]:SC G Tryz.prog 117 [.pointer (some ⟨b,0,none⟩)] H (fun v H'=> v= .int .i64 d∧H'=H):=by
 refine sWk Tryz.func117 Tryz.ntmps117 ?_
 refine go ?_
 refine gk (k:=rt_ Tryz.results117 (k:=?_))
 exact⟨_,hsb,rfl,rfl⟩
theorem BC {G:cK}{H:cG}{b:Nat}{d m:Int}{l:List Value} [hv:cQ H b (.int .i64 d:: .int .i64 m::l)]:SC G Tryz.prog 64 [.pointer (some ⟨b,0,none⟩)] H (fun v H'=> v= .int .i64 m∧H'=H):=by
 refine sWk Tryz.func64 Tryz.ntmps64 ?_
 refine go ?_
 refine gk (k:=rt_ Tryz.results64 (k:=?_))
 exact⟨_,hsb,rfl,rfl⟩
theorem IC {G:cK}{H:cG}{b2 b7 b3 b i fr:Nat}{t:Int}{lp:Option Nat}{im sk:SV}{ps:List Po}{v0 v1 v3 v4 v5 v6:Value} [cQ H b2 [.pointer (some ⟨b,0,none⟩)]] [cQ H b7 [.int .i64 ((fr:Nat):Int)]] [cQ H b3 [.int .i64 t]] [cQ H b [v0,v1,lpV lp,v3,v4,v5,v6]] [hl:zI H lp im sk ps] (hn:lp=none→ps= []) (hi:fr+i<dk ps) (hs:ps.length≤100000):SC G Tryz.prog 189 [.int .i64 ((i:Nat):Int), .pointer (some ⟨b2,0,none⟩), .pointer (some ⟨b7,0,none⟩), .pointer (some ⟨b3,0,none⟩)] H (fun v H'=> v= .bool (decide (t≤(((iZ ps (fr+i)).1:Nat):Int)))∧H'=H):=by
 have hpn:ps≠ []:=fun e=> by subst e;unfold dk at hi;simp at hi
 obtain⟨p,rfl⟩:∃p,lp=some p:=by cases lp with|none=> exact absurd (hn rfl) hpn|some p=> exact⟨p,rfl⟩
 obtain⟨hv1,hv2,hv3⟩:=hl.at_ p rfl
 have hget:=ka hi
 have hbl:dk ps≤ps.length:=by unfold dk;unfold dk at hi;omega
 refine sWk Tryz.func189 Tryz.ntmps189 ?_
 refine go ?_
 refine df cI (fun i=> [11,12].contains i) (fun k H=> (k=0→cQ H b2 [.pointer (some ⟨b,0,none⟩)])∧(k=3→cQ H b [v0,v1,lpV (some p),v3,v4,v5,v6])∧(k=4→cQ H b7 [.int .i64 ((fr:Nat):Int)])∧(k=7→cQ H p [im.val, .int .i64 ((ps.length:Nat):Int), .int .i64 ((dg ps:Nat):Int),sk.val]∧Sl H sk eSk (fj ps))) (?_)
 refine cE 0 rfl rfl (a8) rfl (cD fun H hH=>ak) (?_)
 refine af_ 1 (q:=cD fun H hH=>nck) (k:=af_ 2 (q:=cD fun H hH=>fla) (k:=?_))
 refine cE 3 rfl rfl (a8) rfl (cD fun H hH=>ar) (?_)
 refine cE 4 rfl rfl (a8) rfl (cD fun H hH=>aF) (?_)
 refine af_ 5 (q:=cD fun H hH=>mv) (k:=?_)
 refine cE 6 rfl rfl (a8) rfl (cD fun H hH=>evq iad (congrArg (Value.int .i64) (show _=((fr+i:Nat):Int)from aa))) (?_)
 refine cE 7 rfl rfl (a8) rfl (fun H hH=> by have hN:=hH.2.2.2 rfl;obtain⟨h1,h2⟩:=hN;exact cW (vs:= [_,_]) rfl (LG (b:=p) hget)) (?_)
 refine af_ 8 (q:=cD fun H hH=>mv) (k:=af_ 9 (q:=cD fun H hH=>exr) (k:=af_ 10 (q:=cD fun H hH=>exr) (k:=?_)))
 refine cN 11 rfl (a8) rfl (fun k hk=> ⟨fun hi=> ax,fun hi=> ax,fun hi=> ax,fun hi=> ax⟩) (nK) ?_
 rintro _ _ ⟨b6,rfl,rfl⟩
 refine cN 12 rfl (a8) rfl (fun k hk=> ⟨fun hi=> ax,fun hi=> ax,fun hi=> ax,fun hi=> ax⟩) (dM rfl rfl rfl) ?_
 rintro _ _ ⟨rfl,rfl⟩
 refine af_ 13 (q:=cD fun H hH=>asn) (k:=db (a8) (fun k hk=> ⟨fun hi=> absurd hk (ad),fun hi=> absurd hk (ad),fun hi=> absurd hk (ad),fun hi=> absurd hk (ad)⟩) (gk (k:=rt_ Tryz.results189 (k:=?_))))
 exact⟨_,hsb,rfl,rfl⟩
theorem M6 {G:cK}{H R:cG}{b:Nat}{c:CuS}{t:Int} [hg:Glb G R] [hr:Rem H CuH b c R] (hu:c.u≤c.ps.length):SC G Tryz.prog 160 [.pointer (some ⟨b,0,none⟩), .int .i64 t] H (fun v H'=> v= .int .i64 ((qf c.ps c.u t:Nat):Int)∧H'=CuH b c::R):=by
 refine sWk Tryz.func160 Tryz.ntmps160 ?_
 refine go ?_
 refine wB b fun lp im sk rd zs blk hc hn hbk=> ?_
 have hpl:=hc.small.1
 have hfr:c.u / 16≤100000:=aa
 have hbl:dk c.ps=(c.ps.length+15) / 16:=rfl
 refine bxx (k:=fun b2=>?_)
 refine bxx (k:=fun b3=>?_)
 refine go ?_
 refine cX cI (as_ 0 (q:=ldv) (k:=?_))
 refine cE 1 rfl rfl (a8) rfl (gQ (vs:= [_]) rfl (wg hn)) (?_)
 refine as_ 2 (q:=ldv) (k:=as_ 3 (q:=nck) (k:=as_ 4 (q:=fla) (k:=as_ 5 (q:=ldv) (k:=?_))))
 refine cE 6 rfl rfl (a8) rfl (dz (evq iad (congrArg (Value.int .i64) (show _=((c.u:Nat):Int)from aa)))) (?_)
 refine as_ 7 (q:=asn) (k:=as_ 8 (q:=asn) (k:=az_ (k:=qn_ (ws_ (wr_ (e_ mv (k:=?_)))))))
 refine e_ (gn rfl rfl c.u 16 rfl rfl (ag) (aq)) (k:=?_)
 refine alc (k:=fun b7=>?_)
 refine sto (k:=on_ (qn_ (ws_ (wr_ (e_ mv (k:=e_ iad (k:=?_)))))))
 refine e_ (evq isb (congrArg (Value.int .i64) (show _=((c.ps.length+15:Nat):Int)from aa))) (k:=?_)
 refine e_ (gn rfl rfl (c.ps.length+15) 16 rfl rfl (ag) (aq)) (k:=?_)
 refine go ?_
 refine df cI (fun i=> [6].contains i) (fun k H=> (k=0→cQ H b7 [.int .i64 ((c.u / 16:Nat):Int)])∧(k=2→cQ H b7 [.int .i64 ((c.u / 16:Nat):Int)])) (?_)
 refine cE 0 rfl rfl (a8) rfl (cD fun H hH=>ak) (?_)
 refine af_ 1 (q:=cD fun H hH=>mv) (k:=?_)
 refine cE 2 rfl rfl (a8) rfl (cD fun H hH=>aE) (?_)
 refine af_ 3 (q:=cD fun H hH=>isb) (k:=?_)
 refine cE 4 rfl rfl (a8) rfl (cD fun H hH=>evq (mO rfl rfl) (congrArg (Value.int .i64) (show _=(((c.ps.length+15) / 16 - c.u / 16:Nat):Int)from aa))) (?_)
 refine af_ 5 (q:=cD fun H hH=>mkf) (k:=?_)
 refine cN 6 rfl (a8) rfl (fun k hk=> ⟨fun hi=> ab,fun hi=> ab⟩) (cW (vs:= [_,_]) rfl (Bw (n:=(c.ps.length+15) / 16 - c.u / 16) (fi:= []) (ca:= [.pointer (some ⟨b2,0,none⟩), .pointer (some ⟨b7,0,none⟩), .pointer (some ⟨b3,0,none⟩)]) (p:=fun i=> decide (t≤(((iZ c.ps (c.u / 16+i)).1:Nat):Int))) (aa) (fun i hi=> IC (b:=b) (ps:=c.ps) hn (aa) (aa)) (fun x y h1 h2 h3=> by
  have h4:=Oc hc.ok hc.small (i:=c.u / 16+x) (j:=c.u / 16+y) (aa) (aa)
  have h5:=Yt h3
  exact Ys (aa)))) ?_
 rintro _ _ ⟨⟨k,rfl,hk1,hk2,hk3⟩,rfl⟩
 obtain⟨K,hK⟩:∃K,K=c.u / 16+k:=⟨_,rfl⟩
 obtain⟨q0,hq0⟩:∃q0,q0=max c.u (16*K):=⟨_,rfl⟩
 have hlow:∀j p,c.u≤j→j<q0→c.ps[j]? =some p→(p.1:Int)<t:=fun j p h1 h2 h3=> by
  have h4:=Jp hc.ok h3
  have h5:=hk2 (j / 16 - c.u / 16) (aa)
  have h6:=of_decide_eq_false h5
  rw[show c.u / 16+(j / 16 - c.u / 16)=j / 16 from aa]at h6
  omega
 refine cE 7 rfl rfl (a8) rfl (cD fun H hH=>evq iad (congrArg (Value.int .i64) (show _=((K:Nat):Int)from aa))) (?_)
 refine af_ 8 (q:=cD fun H hH=>asn) (k:=db (a8) (fun k hk=> ⟨fun hi=> ab,fun hi=> ab⟩) (qn_ (ws_ (ws_ (wr_ (e_ mv (k:=e_ mv (k:=?_))))))))
 refine e_ (evq iml (congrArg (Value.int .i64) (show _=((16*K:Nat):Int)from aa))) (k:=?_)
 refine e_ (evq (mO rfl rfl) (congrArg (Value.int .i64) (show _=((q0:Nat):Int)from aa))) (k:=?_)
 refine gk (k:=dt (Nat×SV×(List PG)×Int) (fun y=> c.u≤y.1∧uH c.ps y.2.2.1 y.2.2.2∧y.1≤q0+c.ps.length∧∀j p,c.u≤j→j<y.1→c.ps[j]? =some p→(p.1:Int)<t) (fun y=> [(10, .int .i64 ((y.1:Nat):Int))]) [(2,_),(3,_),(5,_)] (fun y=> [Vr b [.int .i64 (gJ c.ps c.u), .int .i64 ((c.mv:Nat):Int),lpV lp, .int .i64 (((c.u:Nat):Int) - 1), .int .i64 y.2.2.2,y.2.1.val, .bool c.told],Row y.2.1 ePo (y.2.2.1.map pgV),Cl pgH y.2.2.1]) _ (fun y=> c.ps.length - y.1) ((q0,rd,zs,blk)) (h0:=?_) (k:=?_))
 ·try dsimp only
  exact⟨aa,hbk,aa,hlow⟩
 rintro⟨q,rd,zs,blk⟩ ⟨hqu,hbk,hqn,hlow⟩
 try dsimp only[Yd,Ye]at*
 refine gk (k:=wi_ (k:=fun h1=>?_) (m:=fun h1=>?_))
 ·refine go ?_
  refine df cI (fun i=> [2].contains i) (fun k H=> (k=0→cQ H b2 [.pointer (some ⟨b,0,none⟩)])∧(k=4→cQ H b3 [.int .i64 t])) (?_)
  refine cE 0 rfl rfl (a8) rfl (cD fun H hH=>ak) (?_)
  refine af_ 1 (q:=cD fun H hH=>mv) (k:=?_)
  refine cE 4 rfl rfl (a8) rfl (cD fun H hH=>aE) (?_)
  refine cN 2 rfl (a8) rfl (fun k hk=> ⟨fun hi=> ab,fun hi=> ab⟩) (cW (vs:= [_,_]) rfl (xK hn hbk hc.ok hc.small hc.tot (aa))) ?_
  rintro _ _ ⟨rd2,zs2,blk2,z,hbk2,hzq,hzs,rfl,rfl⟩
  refine cE 3 rfl rfl (a8) rfl (cD fun H hH=>gA (ft:=3) (off:=0) Tryz.underlying237 rfl rfl rfl) (?_)
  refine af_ 5 (q:=cD fun H hH=>ige) (k:=db (a8) (fun k hk=> ⟨fun hi=> absurd hk (ad),fun hi=> ab⟩) (gk (k:=wi_ (k:=fun h2=>?_) (m:=fun h2=>?_))))
  ·have h9t:t≤((z.d:Nat):Int):=h2
   have hres:qf c.ps c.u t=q:=GZ hqu (aa) hlow (fun p hp=> by rw[hzq]at hp;cases hp;exact h9t)
   refine gk (k:=rt_ Tryz.results160 (k:=?_))
   exact⟨CuH b c::R,cJ.trans (hsb) (m6 (c:=c) (x:=⟨lp,im,sk,rd2,zs2,blk2⟩) ⟨hc,hn,hbk2⟩),by rw[hres];all_goals rfl,rfl⟩
  refine go ?_
  refine ln_ ((q+1,rd2,zs2,blk2)) (k:=?_)
  try dsimp only
  refine⟨aa,hbk2,aa,fun j p h1 h2 h3=> ?_⟩
  rcases Nat.lt_or_ge j q with h4|h4
  ·exact hlow j p h1 h4 h3
  ·obtain rfl:j=q:=by omega
   rw[hzq]at h3;cases h3
   show((z.d:Nat):Int)<t
   omega
 refine gk (k:=rt_ Tryz.results160 (k:=?_))
 exact⟨CuH b c::R,cJ.trans (hsb) (m6 (c:=c) (x:=⟨lp,im,sk,rd,zs,blk⟩) ⟨hc,hn,hbk⟩),congrArg (fun n:Nat=> Value.int .i64 (n:Int)) (GZ hu (Nat.le_refl _) (fun j p h1 h2 h3=> hlow j p h1 (aa) h3) (fun p hp=> by simp at hp)).symm,rfl⟩
theorem O2 {G:cK}{H R:cG}{b q:Nat}{c:CuS} [hg:Glb G R] [hr:Rem H CuH b c R] (hq1:c.u≤q) (hq2:q≤c.ps.length):SC G Tryz.prog 159 [.pointer (some ⟨b,0,none⟩), .int .i64 ((q:Nat):Int)] H (fun v H'=> v= .int .i64 (gJ c.ps (q+1))∧H'=CuH b (goC c q)::R):=by
 refine sWk Tryz.func159 Tryz.ntmps159 ?_
 refine ws_ (wr_ (?_))
 refine wB b fun lp im sk rd zs blk hc hn hbk=> ?_
 have hpl:=hc.small.1
 have hmv:=hc.mvle
 have hmg:=G5 hq1 hq2
 have hgo:=hc.go hq1 hq2
 have hmdef:mvG c.ps.length c.u q=if q<c.ps.length∧c.u / 16=q / 16 then q+1 - c.u else if q<c.ps.length then q / 16 - c.u / 16+q % 16+1 else if c.u=c.ps.length then 1 else(c.ps.length+15) / 16 - c.u / 16+1:=rfl
 refine go ?_
 refine cX cI (as_ 0 (q:=mv) (k:=?_))
 refine cE 1 rfl rfl (a8) rfl (gQ (vs:= [_]) rfl (wg hn)) (?_)
 refine as_ 2 (q:=mv) (k:=as_ 3 (q:=nck) (k:=as_ 4 (q:=fla) (k:=as_ 5 (q:=ldv) (k:=?_))))
 refine cE 6 rfl rfl (a8) rfl (dz (evq iad (congrArg (Value.int .i64) (show _=((c.u:Nat):Int)from aa)))) (?_)
 refine as_ 7 (q:=asn) (k:=as_ 8 (q:=asn) (k:=az_ (k:=qn_ (w7 (Nat) (fun y=> y=c.mv+mvG c.ps.length c.u q) (fun y=> []) [14,15,16,17,18,19,20,21,22,23,24,25,26,27,28,29,30,31,32,33,34,35,36,37,38,39,40,41,42,43,44,45,46,47,48,49,50,51,52,53,54,55,56,57,58,59,60,61,62,63,64,65,66,67,68,69,70,71,72,73,74,75,76,77,78,79,80,81,82,83,84,85,86,87,88,89,90,91] (fun y=> [Vr b [.int .i64 (gJ c.ps c.u), .int .i64 ((y:Nat):Int),lpV lp, .int .i64 (((c.u:Nat):Int) - 1), .int .i64 blk,rd.val, .bool c.told]]) (LPh lp im sk c.ps::Row rd ePo (zs.map pgV)::Cl pgH zs::R) ?_ ?_))))
 ·refine wb_ (ws_ (wr_ (e_ mv (k:=e_ mv (k:=e_ ilt (k:=e_ mv (k:=dh 6 41 (k:=fun h1=>eg_ mv (k:=eg_ (gn rfl rfl c.u 16 rfl rfl (ag) (aq)) (k:=eg_ mv (k:=eg_ (gn rfl rfl q 16 rfl rfl (ag) (aq)) (k:=eg_ ieq (k:=e_ pkt (k:=on_ (edq)))))))) (q:=e_ asn (k:=on_ (qn_ (wi_ (k:=fun h2=>?_) (m:=fun h2=>?_))))))))))))
  ·have hc1:q<c.ps.length∧c.u / 16=q / 16:=by obtain⟨a1,a2⟩:=h2;exact⟨aa,aa⟩
   refine df cI (fun i=> [15].contains i) (fun k H=> (k=4→cQ H b [.int .i64 (gJ c.ps c.u), .int .i64 ((c.mv:Nat):Int),lpV lp, .int .i64 (((c.u:Nat):Int) - 1), .int .i64 blk,rd.val, .bool c.told])∧(k=9→cQ H b [.int .i64 (gJ c.ps c.u), .int .i64 ((c.mv:Nat):Int),lpV lp, .int .i64 (((c.u:Nat):Int) - 1), .int .i64 blk,rd.val, .bool c.told])) (af_ 0 (q:=cD fun H hH=>mv) (k:=af_ 1 (q:=cD fun H hH=>nck) (k:=af_ 2 (q:=cD fun H hH=>fla) (k:=af_ 3 (q:=cD fun H hH=>fla) (k:=?_)))))
   refine cE 4 rfl rfl (a8) rfl (cD fun H hH=>ak) (?_)
   refine af_ 5 (q:=cD fun H hH=>mv) (k:=af_ 6 (q:=cD fun H hH=>mv) (k:=af_ 7 (q:=cD fun H hH=>nck) (k:=af_ 8 (q:=cD fun H hH=>fla) (k:=?_))))
   refine cE 9 rfl rfl (a8) rfl (cD fun H hH=>aE) (?_)
   refine cE 10 rfl rfl (a8) rfl (cD fun H hH=>evq isb (congrArg (Value.int .i64) (show _=((q+1 - c.u:Nat):Int)from aa))) (?_)
   refine cE 11 rfl rfl (a8) rfl (cD fun H hH=>evq iad (congrArg (Value.int .i64) (show _=((c.mv+(q+1 - c.u):Nat):Int)from aa))) (?_)
   refine af_ 12 (q:=cD fun H hH=>nck) (k:=af_ 13 (q:=cD fun H hH=>fla) (k:=af_ 14 (q:=cD fun H hH=>fla) (k:=?_)))
   refine cN 15 rfl (a8) rfl (fun k hk=> ⟨fun hi=> ab,fun hi=> ab⟩) (dM rfl rfl rfl) ?_
   rintro _ _ ⟨rfl,rfl⟩
   refine db (a8) (fun k hk=> ⟨fun hi=> absurd hk (ad),fun hi=> absurd hk (ad)⟩) (gk (k:=jnE (c.mv+(q+1 - c.u)) (q:=?_)))
   rw[hmdef,if_pos hc1]
  have hc1:¬(q<c.ps.length∧c.u / 16=q / 16):=aQ
  refine gk (k:=wi_ (k:=fun h3=>?_) (m:=fun h3=>?_))
  ·refine wr_ (e_ mv (k:=e_ nck (k:=e_ fla (k:=e_ fla (k:=e_ ldv (k:=e_ mv (k:=?_)))))))
   refine e_ (gn rfl rfl q 16 rfl rfl (ag) (aq)) (k:=?_)
   refine e_ mv (k:=?_)
   refine e_ (gn rfl rfl c.u 16 rfl rfl (ag) (aq)) (k:=?_)
   refine e_ isb (k:=e_ mv (k:=?_))
   refine e_ (kG rfl rfl q 16 rfl rfl (ag)) (k:=?_)
   refine e_ iad (k:=e_ iad (k:=?_))
   refine e_ (evq iad (congrArg (Value.int .i64) (show _=((c.mv+(q / 16 - c.u / 16+q % 16+1):Nat):Int)from aa))) (k:=?_)
   refine gk (k:=jnE (c.mv+(q / 16 - c.u / 16+q % 16+1)) (q:=?_))
   rw[hmdef,if_neg hc1,if_pos (aa)]
  refine gk (k:=wi_ (k:=fun h4=>?_) (m:=fun h4=>?_))
  ·refine wr_ (e_ mv (k:=e_ nck (k:=e_ fla (k:=e_ fla (k:=e_ ldv (k:=?_))))))
   refine e_ (evq iad (congrArg (Value.int .i64) (show _=((c.mv+1:Nat):Int)from aa))) (k:=?_)
   refine gk (k:=jnE (c.mv+1) (q:=?_))
   rw[hmdef,if_neg hc1,if_neg (aa),if_pos (aa)]
  refine wr_ (e_ mv (k:=e_ nck (k:=e_ fla (k:=e_ fla (k:=e_ ldv (k:=e_ mv (k:=e_ iad (k:=?_))))))))
  refine e_ (evq isb (congrArg (Value.int .i64) (show _=((c.ps.length+15:Nat):Int)from aa))) (k:=?_)
  refine e_ (gn rfl rfl (c.ps.length+15) 16 rfl rfl (ag) (aq)) (k:=?_)
  refine e_ mv (k:=?_)
  refine e_ (gn rfl rfl c.u 16 rfl rfl (ag) (aq)) (k:=?_)
  refine e_ isb (k:=e_ iad (k:=?_))
  refine e_ (evq iad (congrArg (Value.int .i64) (show _=((c.mv+((c.ps.length+15) / 16 - c.u / 16+1):Nat):Int)from aa))) (k:=?_)
  refine gk (k:=jnE (c.mv+((c.ps.length+15) / 16 - c.u / 16+1)) (q:=?_))
  rw[hmdef,if_neg hc1,if_neg (aa),if_neg (aa)]
 rintro mm hmm
 try dsimp only[Yd,Ye]at*
 refine go ?_
 refine go ?_
 refine gk (k:=wi_ (k:=fun h5=>?_) (m:=fun h5=>?_))
 ·refine go ?_
  refine c2_ rfl (xK hn hbk hc.ok hc.small hc.tot (aa)) (k:=?_)
  rintro _ _ ⟨rd2,zs2,blk2,z,hbk2,hzq,hzs,rfl,rfl⟩
  have hdq:gJ c.ps (q+1)=((z.d:Nat):Int):=Km hzq
  refine e_ (gA (ft:=3) (off:=0) Tryz.underlying237 rfl rfl rfl) (k:=?_)
  refine go ?_
  refine gk (k:=rt_ Tryz.results159 (k:=?_))
  exact⟨CuH b (goC c q)::R,cJ.trans (H':=Vr b [.int .i64 (gJ c.ps (q+1)), .int .i64 ((c.mv+mvG c.ps.length c.u q:Nat):Int),lpV lp, .int .i64 (((q+1:Nat):Int) - 1), .int .i64 blk2,rd2.val, .bool false]::LPh lp im sk c.ps::Row rd2 ePo (zs2.map pgV)::Cl pgH zs2::R) (by rw[hdq,←hmm,show(((q+1:Nat):Int) - 1)=((q:Nat):Int)from aa];exact hsb) (m6 (c:=goC c q) (x:=⟨lp,im,sk,rd2,zs2,blk2⟩) ⟨hgo,hn,hbk2⟩),by rw[hdq];all_goals rfl,rfl⟩
 obtain rfl:q=c.ps.length:=aa
 have hdq:=zg c.ps
 refine gk (k:=rt_ Tryz.results159 (k:=?_))
 exact⟨CuH b (goC c c.ps.length)::R,cJ.trans (H':=Vr b [.int .i64 (gJ c.ps (c.ps.length+1)), .int .i64 ((c.mv+mvG c.ps.length c.u c.ps.length:Nat):Int),lpV lp, .int .i64 (((c.ps.length+1:Nat):Int) - 1), .int .i64 blk,rd.val, .bool false]::LPh lp im sk c.ps::Row rd ePo (zs.map pgV)::Cl pgH zs::R) (by rw[hdq,←hmm,show(((c.ps.length+1:Nat):Int) - 1)=((c.ps.length:Nat):Int)from aa];exact hsb) (m6 (c:=goC c c.ps.length) (x:=⟨lp,im,sk,rd,zs,blk⟩) ⟨hgo,hn,hbk⟩),by rw[hdq];all_goals rfl,rfl⟩
theorem O8 {G:cK}{H R:cG}{b:Nat}{c:CuS}{t:Int} [hg:Glb G R] [hr:Rem H CuH b c R] (hc0:iK c):SC G Tryz.prog 118 [.pointer (some ⟨b,0,none⟩), .int .i64 t] H (fun v H'=> v= .int .i64 (gJ (jE c t).ps (jE c t).u)∧H'=CuH b (jE c t)::R):=by
 refine sWk Tryz.func118 Tryz.ntmps118 ?_
 refine ws_ (wr_ (?_))
 refine wB b fun lp im sk rd zs blk hc hn hbk=> ?_
 have hpl:=hc.small.1
 have hat:=hc.at_
 refine go ?_
 refine cX cI (as_ 0 (q:=mv) (k:=as_ 1 (q:=nck) (k:=as_ 2 (q:=fla) (k:=as_ 3 (q:=fla) (k:=as_ 4 (q:=ldv) (k:=as_ 5 (q:=mv) (k:=as_ 6 (q:=ige) (k:=?_))))))))
 refine gq 7 rfl rfl (a8) rfl (dz (mv)) (fun h1=> ?_) (fun h1=> ?_)
 ·replace h1:=nrm h1
  have had:jE c t=c:=by
   unfold jE
   rw[if_pos (.inl (az))]
  refine ao_ 8 (k:=ao_ 9 (k:=ao_ 10 (k:=ao_ 11 (k:=ao_ 12 (k:=ao_ 13 (k:=ao_ 14 (k:=as_ 15 (q:=pkt) (k:=az_ (k:=gk (k:=ift (k:=go ?_)))))))))))
  refine gk (k:=rt_ Tryz.results118 (k:=?_))
  exact⟨CuH b (jE c t)::R,ck,by rw[had];all_goals rfl,rfl⟩
 replace h1:=nrm h1
 have hlt:¬t≤gJ c.ps c.u:=az
 refine at2 8 (q:=mv) (k:=at2 9 (q:=nck) (k:=at2 10 (q:=fla) (k:=at2 11 (q:=ldv) (k:=at2 12 (q:=mv) (k:=?_)))))
 refine ld 13 rfl rfl rfl rfl (a8) rfl (gQ (vs:= [_]) rfl (wg hn)) (?_)
 refine at2 14 (q:=ieq) (k:=as_ 15 (q:=pkf) (k:=az_ (k:=gk (k:=wi_ (k:=fun h2=>?_) (m:=fun h2=>?_)))))
 ·have had:jE c t=c:=by
   unfold jE
   rw[if_pos (.inr (aQ))]
  refine gk (k:=rt_ Tryz.results118 (k:=?_))
  exact⟨CuH b (jE c t)::R,ck,by rw[had];all_goals rfl,rfl⟩
 have hu:c.u≤c.ps.length:=aQ
 obtain⟨f1,f2,_⟩:=AU (t:=t) hu
 have had:jE c t=goC c (qf c.ps c.u t):=by
  unfold jE
  rw[if_neg]
  rintro(h9|h9) <;> omega
 refine go ?_
 refine du (H':=CuH b c::R) (cJ.trans (hsb) (m6 (c:=c) (x:=⟨lp,im,sk,rd,zs,blk⟩) ⟨hc,hn,hbk⟩)) ?_
 refine go ?_
 refine d2_ rfl (M6 hu) (k:=?_)
 refine d2_ rfl (O2 f1 f2) (k:=gk (k:=rt_ Tryz.results118 (k:=?_)))
 exact⟨_,hsb,by rw[had];all_goals rfl,by rw[had]⟩
theorem A1 {G:cK}{H R:cG}{b:Nat}{c:CuS} [hg:Glb G R] [hr:Rem H CuH b c R] (hc0:iK c):SC G Tryz.prog 133 [.pointer (some ⟨b,0,none⟩)] H (fun v H'=> ∃s:SV,v=s.val∧H'=Row s eI (cV (eV c))::CuH b (ln c)::R):=by
 refine sWk Tryz.func133 Tryz.ntmps133 ?_
 refine go ?_
 refine d1_ rfl (KV) (k:=gk (k:=wi_ (k:=fun h1=>?_) (m:=fun h1=>?_)))
 ·have hnil:eV c= []:=List.eq_nil_of_length_eq_zero (az)
  have hpc:ln c=c:=by unfold ln;rw[if_pos (.inr hnil)]
  refine gk (k:=rt_ Tryz.results133 (k:=?_))
  exact⟨Row SV.nil eI (cV (eV c))::CuH b (ln c)::R,by rw[hnil,hpc];exact cJ.nilRow (e:=eI) cJ.refl,SV.nil,rfl,rfl⟩
 have hne:eV c≠ []:=fun e=> by have h9:=h1;rw[e]at h9;exact h9 rfl
 obtain⟨u,hu2,p,hp⟩:∃u,c.u=u+1∧∃p,c.ps[u]? =some p:=by
  rcases hcu:c.u with _|u
  ·exact absurd (oh (.inl hcu)) hne
  ·cases hp:c.ps[u]? with
   |none=> exact absurd (oh (.inr (by rw[List.getElem?_eq_none_iff]at hp;omega))) hne
   |some p=> exact⟨u,rfl,p,hp⟩
 have hh:eV c=p.2:=tW hu2 hp
 have hul:=(Yk.1 hp).1
 have hpsm:=(hc0.small.2 p (Yj hp)).2.1
 have hpo:=hc0.pos
 have hhl:(eV c).length≤100000000:=by rw[hh];exact hpsm
 have hmv:=hc0.mvle
 refine go ?_
 refine wB b fun lp im sk rd zs blk hc hn hbk=> ?_
 refine gk (k:=wi_ (k:=fun h2=>?_) (m:=fun h2=>?_))
 ·have htd:c.told=false:=by have h9:=h2;simpa using h9
  have hpc:ln c=⟨c.ps,c.u,c.mv+(eV c).length,true⟩:=by unfold ln;rw[if_neg (by rintro(h9|h9);exact absurd h9 (by rw[htd];decide);exact hne h9)]
  refine go ?_
  refine df cI (fun i=> [6,11].contains i) (fun k H=> (k=4→∃(x1:Value) (x2:Value),cQ H b [.int .i64 (gJ c.ps c.u), .int .i64 ((c.mv:Nat):Int),lpV lp, .int .i64 (((c.u:Nat):Int) - 1),x1,x2, .bool c.told])) (af_ 0 (q:=cD fun H hH=>mv) (k:=af_ 1 (q:=cD fun H hH=>nck) (k:=af_ 2 (q:=cD fun H hH=>fla) (k:=af_ 3 (q:=cD fun H hH=>fla) (k:=?_)))))
  refine cE 4 rfl rfl (a8) rfl (cD fun H hH=>by have hN:=hH rfl;exact(by obtain⟨x1,x2,hN2⟩:=hN;exact ldv)) (?_)
  refine af_ 5 (q:=cD fun H hH=>mv) (k:=?_)
  refine cN 6 rfl (a8) rfl (fun k hk=> fun hi=> by subst hi;exact⟨_,_,inferInstance⟩) (cW (vs:= [_]) rfl (F3 (c:=c) hn hbk hc)) ?_
  rintro _ _ ⟨rfl,rd1,zs1,blk1,hbk1,rfl⟩
  refine cE 7 rfl rfl (a8) rfl (cD fun H hH=>evq iad (congrArg (Value.int .i64) (show _=((c.mv+(eV c).length:Nat):Int)from aa))) (?_)
  refine af_ 8 (q:=cD fun H hH=>nck) (k:=af_ 9 (q:=cD fun H hH=>fla) (k:=af_ 10 (q:=cD fun H hH=>fla) (k:=?_)))
  refine cN 11 rfl (a8) rfl (fun k hk=> fun hi=> by subst hi;exact⟨_,_,inferInstance⟩) (dM rfl rfl rfl) ?_
  rintro _ _ ⟨rfl,rfl⟩
  refine db (a8) (fun k hk=> fun hi=> absurd hk (ad)) (go ?_)
  refine s_ (iN eI rfl) (k:=?_)
  rintro _ _ ⟨s25,rfl,rfl⟩
  refine e_ mv (k:=e_ mv (k:=e_ nck (k:=e_ fla (k:=?_))))
  refine e_ (evq ldv (congrArg (Value.int .i64) (show(((c.u:Nat):Int) - 1)=((u:Nat):Int)from aa))) (k:=?_)
  refine c2_ rfl (xK hn (by first|exact hbk1|exact hbk) hc.ok hc.small hc.tot hul) (k:=?_)
  rintro _ _ ⟨rd2,zs2,blk2,z,hbk2,hzq,hzs,rfl,rfl⟩
  have hz0:=dO z.pos
  have hzp:z.pos=eV c:=by rw[hh];rw[hzq]at hp;cases hp;rfl
  have hzl:z.pos.length≤100000000:=by rw[hzp,hh];exact hpsm
  refine e_ (gA (ft:=28) (off:=1) Tryz.underlying237 rfl rfl rfl) (k:=?_)
  refine app (k:=fun s33=>?_)
  refine gk (k:=rt_ Tryz.results133 (k:=?_))
  have hpo2:=hpo
  rw[hpc]at hpo2
  (try rw[←hzp]at hpo2)
  exact⟨Row s33 eI (cV (eV c))::CuH b (ln c)::R,bM,s33,rfl,rfl⟩
 have htd:c.told=true:=aO
 have hpc:ln c=c:=by unfold ln;rw[if_pos (.inl htd)]
 refine go ?_
 refine s_ (iN eI rfl) (k:=?_)
 rintro _ _ ⟨s25,rfl,rfl⟩
 refine e_ mv (k:=e_ mv (k:=e_ nck (k:=e_ fla (k:=?_))))
 refine e_ (evq ldv (congrArg (Value.int .i64) (show(((c.u:Nat):Int) - 1)=((u:Nat):Int)from aa))) (k:=?_)
 refine c2_ rfl (xK hn (by first|exact hbk1|exact hbk) hc.ok hc.small hc.tot hul) (k:=?_)
 rintro _ _ ⟨rd2,zs2,blk2,z,hbk2,hzq,hzs,rfl,rfl⟩
 have hz0:=dO z.pos
 have hzp:z.pos=eV c:=by rw[hh];rw[hzq]at hp;cases hp;rfl
 have hzl:z.pos.length≤100000000:=by rw[hzp,hh];exact hpsm
 refine e_ (gA (ft:=28) (off:=1) Tryz.underlying237 rfl rfl rfl) (k:=?_)
 refine app (k:=fun s33=>?_)
 refine gk (k:=rt_ Tryz.results133 (k:=?_))
 have hpo2:=hpo
 rw[hpc]at hpo2
 (try rw[←hzp]at hpo2)
 exact⟨Row s33 eI (cV (eV c))::CuH b (ln c)::R,bM,s33,rfl,rfl⟩
structure Bj (q:PtD):Prop where
 n:q.ds.length≤1048576
 f:1≤q.fs.length∧q.fs.length≤1000000000
 wl:q.dw.length=(q.ds.length+63) / 64
 w:okW q.dw
theorem uu {H:cG}{a:PtA}{q:PtD} [hp:dq H a q]:a.l.length=q.ds.length:=hp.docs.1
theorem EZ {G:cK}{H:cG}{a:PtA}{q:PtD}{d:Int} [hp:dq H a q]:SC G Tryz.prog 58 [.pointer (some ⟨a.g,0,none⟩), .int .i64 d] H (fun v H'=> v= .bool (decide (0≤d) && decide (d<((q.ds.length:Nat):Int)))∧H'=H):=by
 have hl:=uu (a:=a) (q:=q) (H:=H)
 refine sWk Tryz.func58 Tryz.ntmps58 ?_
 refine gk (k:=dh 8 15 (k:=fun h1=>gk (k:=edq)) (q:=go ?_))
 refine gk (k:=rt_ Tryz.results58 (k:=?_))
 exact⟨_,hsb,by rw[←hl];all_goals rfl,rfl⟩
theorem Md {G:cK}{H:cG}{a:PtA}{q:PtD} [hp:dq H a q]:SC G Tryz.prog 25 [.pointer (some ⟨a.g,0,none⟩)] H (fun v H'=> v= .int .i64 ((q.ds.length:Nat):Int)∧H'=H):=by
 have hl:=uu (a:=a) (q:=q) (H:=H)
 refine sWk Tryz.func25 Tryz.ntmps25 ?_
 refine go ?_
 refine gk (k:=rt_ Tryz.results25 (k:=?_))
 exact⟨_,hsb,by rw[←hl];all_goals rfl,rfl⟩
theorem Mb {G:cK}{H:cG}{g:Nat}{fv lv wv bl im:Value}{l:List (Int×SV)}{sd:SV} [cQ H g [fv,sd.val,lv,wv,bl,im]] [Sl H sd eD l]:SC G Tryz.prog 25 [.pointer (some ⟨g,0,none⟩)] H (fun v H'=> v= .int .i64 ((l.length:Nat):Int)∧H'=H):=by
 refine sWk Tryz.func25 Tryz.ntmps25 ?_
 refine go ?_
 refine gk (k:=rt_ Tryz.results25 (k:=?_))
 exact⟨_,hsb,rfl,rfl⟩
theorem PX {G:cK}{H:cG}{a:PtA}{q:PtD}{d:Nat}{x:Doc} [hp:dq H a q] (hx:q.ds[d]? =some x):SC G Tryz.prog 63 [.pointer (some ⟨a.g,0,none⟩), .int .i64 ((d:Nat):Int)] H (fun v H'=> v= .tuple #[.int .i64 x.1, .bool true]∧H'=H):=by
 have hl:=uu (a:=a) (q:=q) (H:=H)
 have hxl:=(Yk.1 hx).1
 obtain⟨z,hz⟩:∃z,a.l[d]? =some z:=⟨_,Yi (aa)⟩
 obtain⟨hz1,hz2⟩:=hp.docs.2 d z x hz hx
 refine sWk Tryz.func63 Tryz.ntmps63 ?_
 refine go ?_
 refine d2_ rfl (EZ (a:=a)) (k:=gk (k:=wi_ (k:=fun h1=>?_) (m:=fun h1=>?_)))
 ·have h9:=h1
  exact absurd h9 (aM)
 refine wk_ (qn_ (ws_ (wr_ (e_ mv (k:=e_ nck (k:=e_ fla (k:=e_ ldv (k:=e_ mv (k:=e_ ixa (k:=e_ fle (k:=e_ (lfl (hy:=hz)) (k:=go ?_))))))))))))
 refine gk (k:=rt_ Tryz.results63 (k:=?_))
 exact⟨_,hsb,by rw[←hz1];all_goals rfl,rfl⟩
theorem KT {G:cK}{H:cG}{a:PtA}{q:PtD}{f d:Nat} [hp:dq H a q] (hf:f<q.fs.length) (hd:d<q.ds.length):SC G Tryz.prog 129 [.pointer (some ⟨a.g,0,none⟩), .int .i64 ((f:Nat):Int), .int .i64 ((d:Nat):Int)] H (fun v H'=> v= .int .i64 ((((dP q.fs q.ds f).getD d 0:Nat)):Int)∧H'=H):=by
 have hl:=hp.lens.1
 have hll:(dP q.fs q.ds f).length=q.ds.length:=by rw[dP,Yh]
 have hil:(cV (dP q.fs q.ds f)).length=q.ds.length:=by rw[dO,hll]
 obtain⟨s,hs⟩:∃s,a.lvs[f]? =some s:=⟨_,Yi (aa)⟩
 haveI hsl:Sl H s eI (cV (dP q.fs q.ds f)):=hp.lens.2 f s hs
 have hrow:(cV (dP q.fs q.ds f))[d]? =some ((((dP q.fs q.ds f).getD d 0:Nat)):Int):=by
  rw[cV,Xd,List.getD_eq_getElem?_getD,Yi (aa)];all_goals rfl
 refine sWk Tryz.func129 Tryz.ntmps129 ?_
 refine ws_ (wr_ (e_ asn (k:=on_ (qn_ (ws_ (ws_ (wr_ (e_ mv (k:=e_ ilt (k:=e_ mv (k:=dN 8 17 (k:=fun h1=>eg_ mv (k:=eg_ mv (k:=eg_ nck (k:=eg_ fla (k:=eg_ ldv (k:=eg_ lnn (k:=eg_ ige (k:=e_ pkf (k:=on_ (edq)))))))))) (q:=e_ mv (k:=dN 5 23 (k:=fun h2=>eg_ mv (k:=eg_ mv (k:=kK (vs:=[_,_]) (hc:=(EZ (a:=a))) (k:=eg_ k8 (k:=e_ pkf (k:=on_ (edq))))))) (q:=?_))))))))))))))
 refine on_ (qn_ (wi_ (k:=fun h3=>?_) (m:=fun h3=>?_)))
 ·exact absurd h3 (aM)
 refine wk_ (qn_ (ws_ (wr_ (e_ mv (k:=e_ nck (k:=e_ fla (k:=e_ ldv (k:=e_ mv (k:=e_ ixa (k:=e_ (lel (hy:=hs)) (k:=e_ mv (k:=e_ ixa (k:=e_ (lel (hy:=hrow)) (k:=?_))))))))))))))
 refine e_ asn (k:=on_ (qn_ (wt_ (rt_ Tryz.results129 (k:=?_)))))
 exact⟨_,hsb,rfl,rfl⟩
theorem ES {G:cK}{H:cG}{a:PtA}{q:PtD} [hp:dq H a q] (hq:Bj q):SC G Tryz.prog 46 [.pointer (some ⟨a.g,0,none⟩)] H (fun v H'=> ∃s':SV,v= .agg [s'.val].toArray∧H'=Row s' eF q.fs::H):=by
 have hne:q.fs≠ []:=by intro h9;have:=hq.f;rw[h9]at this;simp at this
 refine sWk Tryz.func46 Tryz.ntmps46 ?_
 refine gk (k:=alc (k:=fun b2=>?_))
 refine go ?_
 refine c1_ rfl (Hw hne hq.f.2) (k:=?_)
 rintro _ _ ⟨s8,rfl,rfl⟩
 refine e_ (bld [(0,_)]) (k:=gk (k:=rt_ Tryz.results46 (k:=?_)))
 exact⟨_,hsb,s8,rfl,rfl⟩
theorem NX {G:cK}{H:cG}{b n c:Nat}{s:SV} [cQ H b [.int .i64 ((n:Nat):Int), .int .i64 ((c:Nat):Int),s.val]]:SC G Tryz.prog 114 [.pointer (some ⟨b,0,none⟩)] H (fun v H'=> v= .int .i64 ((n:Nat):Int)∧H'=H):=by
 refine sWk Tryz.func114 Tryz.ntmps114 ?_
 refine go ?_
 refine gk (k:=rt_ Tryz.results114 (k:=?_))
 exact⟨_,hsb,rfl,rfl⟩
theorem Me {G:cK}{H:cG}{b n c:Nat}{s:SV}{ws:List Nat} [cQ H b [.int .i64 ((n:Nat):Int), .int .i64 ((c:Nat):Int),s.val]] [hs:Sl H s eW ws] (hl:ws.length≤1000000):SC G Tryz.prog 115 [.pointer (some ⟨b,0,none⟩)] H (fun v H'=> ∃(b':Nat) (s':SV),v= .pointer (some ⟨b',0,none⟩)∧H'=Vr b' [.int .i64 ((n:Nat):Int), .int .i64 ((c:Nat):Int),s'.val]::Row s' eW ws::H):=by
 refine sWk Tryz.func115 Tryz.ntmps115 ?_
 refine go ?_
 refine df cI (fun i=> [8,13,15].contains i) (fun k H=> (k=3→cQ H b [.int .i64 ((n:Nat):Int), .int .i64 ((c:Nat):Int),s.val])∧(k=7→cQ H b [.int .i64 ((n:Nat):Int), .int .i64 ((c:Nat):Int),s.val])∧(k=12→cQ H b [.int .i64 ((n:Nat):Int), .int .i64 ((c:Nat):Int),s.val])) (af_ 0 (q:=cD fun H hH=>mv) (k:=af_ 1 (q:=cD fun H hH=>nck) (k:=af_ 2 (q:=cD fun H hH=>fla) (k:=?_))))
 refine cE 3 rfl rfl (a8) rfl (cD fun H hH=>ak) (?_)
 refine af_ 4 (q:=cD fun H hH=>mv) (k:=af_ 5 (q:=cD fun H hH=>nck) (k:=af_ 6 (q:=cD fun H hH=>fla) (k:=?_)))
 refine cE 7 rfl rfl (a8) rfl (cD fun H hH=>ar) (?_)
 refine af_ 9 (q:=cD fun H hH=>mv) (k:=af_ 10 (q:=cD fun H hH=>nck) (k:=af_ 11 (q:=cD fun H hH=>fla) (k:=?_)))
 refine cE 12 rfl rfl (a8) rfl (cD fun H hH=>aZ) (?_)
 refine cN 8 rfl (a8) rfl (fun k hk=> ⟨fun hi=> ab,fun hi=> ab,fun hi=> ab⟩) (iN eW rfl) ?_
 rintro _ _ ⟨s11,rfl,rfl⟩
 refine cN 13 rfl (a8) rfl (fun k hk=> ⟨fun hi=> ab,fun hi=> ab,fun hi=> ab⟩) (eY rfl rfl rfl rfl (af) (af)) ?_
 rintro _ _ ⟨s16,rfl,rfl⟩
 refine af_ 14 (q:=cD fun H hH=>bld [(0,_),(1,_),(2,_)]) (k:=?_)
 refine cN 15 rfl (a8) rfl (fun k hk=> ⟨fun hi=> ab,fun hi=> ab,fun hi=> absurd hk (ad)⟩) (th rfl) ?_
 rintro _ _ ⟨b18,rfl,rfl⟩
 refine af_ 16 (q:=cD fun H hH=>asn) (k:=db (a8) (fun k hk=> ⟨fun hi=> ab,fun hi=> ab,fun hi=> absurd hk (ad)⟩) (gk (k:=rt_ Tryz.results115 (k:=?_))))
 exact⟨_,hsb,_,_,rfl,rfl⟩
theorem EX {G:cK}{H:cG}{g b n c:Nat}{s:SV}{ws:List Nat}{dv fv lv wv bl im:Value}{l:List (Int×SV)}{sd:SV} [cQ H b [.int .i64 ((n:Nat):Int), .int .i64 ((c:Nat):Int),s.val]] [hs:Sl H s eW ws] [cQ H g [fv,sd.val,lv,wv,bl,im]] [Sl H sd eD l] (hl:ws.length≤1000000) (hn:l.length=n):SC G Tryz.prog 57 [.pointer (some ⟨g,0,none⟩), .pointer (some ⟨b,0,none⟩)] H (fun v H'=> ∃(p b':Nat) (s':SV),v= .tuple #[.pointer (some ⟨p,0,none⟩), .nilIface]∧H'=Vr p [.pointer (some ⟨g,0,none⟩), .pointer (some ⟨b',0,none⟩)]::Vr b' [.int .i64 ((n:Nat):Int), .int .i64 ((c:Nat):Int),s'.val]::Row s' eW ws::H):=by
 refine sWk Tryz.func57 Tryz.ntmps57 ?_
 refine ws_ (wr_ (e_ asn (k:=e_ asn (k:=on_ (qn_ (ws_ (ws_ (wr_ (e_ mv (k:=?_))))))))))
 refine e_ (dU rfl) (k:=?_)
 refine gk (k:=wi_ (k:=fun h1=>?_) (m:=fun h1=>?_))
 ·exact absurd h1 (an)
 refine go ?_
 refine d1_ rfl (NX (n:=n) (c:=c) (s:=s)) (k:=go ?_)
 refine d1_ rfl (Mb (sd:=sd) (l:=l) (fv:=fv) (lv:=lv) (wv:=wv) (bl:=bl) (im:=im)) (k:=gk (k:=wi_ (k:=fun h2=>?_) (m:=fun h2=>?_)))
 ·exact absurd h2 (by simp[hn])
 refine go ?_
 refine c1_ rfl (Me (n:=n) (c:=c) (s:=s) hl) (k:=?_)
 rintro _ _ ⟨b31,s31,rfl,rfl⟩
 refine e_ (bld [(0,_),(1,_)]) (k:=bxx (k:=fun b33=>?_))
 refine gk (k:=rt_ Tryz.results57 (k:=?_))
 exact⟨_,hsb,_,_,_,rfl,rfl⟩
theorem Mh {G:cK}{H:cG}{a:PtA}{q:PtD}{d:Int} [hp:dq H a q] (hq:Bj q):SC G Tryz.prog 27 [.pointer (some ⟨a.p,0,none⟩), .int .i64 d] H (fun v H'=> v= .bool (decide (0≤d) && decide (d<((q.ds.length:Nat):Int)) && !oG q.dw d.toNat)∧H'=H):=by
 refine sWk Tryz.func27 Tryz.ntmps27 ?_
 refine go ?_
 refine d2_ rfl (EZ (a:=a)) (k:=sp_ (mv) (k:=fun h1=>?_) (m:=fun h1=>?_))
 ·obtain⟨e,rfl⟩:∃e:Nat,d=((e:Nat):Int):=⟨d.toNat,az⟩
  have hel:e<q.ds.length:=az
  refine go ?_
  refine sg_ (cW (vs:= [_,_]) rfl (LY (n:=q.ds.length) (c:=a.cnt) (s:=a.ws) (ws:=q.dw) hel hq.n hq.wl hq.w)) (k:=?_)
  rintro _ _ ⟨rfl,rfl⟩
  refine gk (k:=rt_ Tryz.results27 (k:=?_))
  exact⟨_,hsb,by simp[gF,hel],rfl⟩
 have hz:(decide (0≤d) && decide (d<((q.ds.length:Nat):Int)))=false:=by(have h9:=h1;simp;omega)
 refine gk (k:=rt_ Tryz.results27 (k:=?_))
 exact⟨_,hsb,by rw[hz,Bool.false_and];all_goals rfl,rfl⟩
theorem DA {n i:Nat}{f:Nat→Bool}(hi:i<n):((List.range n).drop i).find? f=if f i=true then some i else((List.range n).drop (i+1)).find? f:=by
 rw[dF (l:=List.range n) (i:=i) (x:=i) (by rw[List.getElem?_range hi]),List.find?_cons]
 all_goals (cases f i <;> rfl)
theorem A3 {G:cK}{H:cG}{a:PtA}{q:PtD}{i0:Int} [hp:dq H a q] (hq:Bj q) (hi0:i0≤4294967296):SC G Tryz.prog 116 [.pointer (some ⟨a.p,0,none⟩), .int .i64 i0] H (fun v H'=> ((∃d:Nat,((List.range q.ds.length).drop i0.toNat).find? (fun d=> !oG q.dw d)=some d∧v= .tuple #[.int .i64 ((d:Nat):Int), .bool true])∨(((List.range q.ds.length).drop i0.toNat).find? (fun d=> !oG q.dw d)=none∧v= .tuple #[.int .i64 0, .bool false]))∧H'=H):=by
 have hqn:=hq.n
 refine sWk Tryz.func116 Tryz.ntmps116 ?_
 refine ws_ (wr_ (e_ asn (k:=e_ asn (k:=on_ (qn_ (ws_ (ws_ (wr_ (e_ mv (k:=?_))))))))))
 refine e_ (evq (mO rfl rfl) (congrArg (Value.int .i64) (show _=((i0.toNat:Nat):Int)from aa))) (k:=?_)
 refine gk (k:=dt (Nat) (fun y=> i0.toNat≤y∧y≤max i0.toNat q.ds.length∧((List.range q.ds.length).drop i0.toNat).find? (fun d=> !oG q.dw d)=((List.range q.ds.length).drop y).find? (fun d=> !oG q.dw d)) (fun y=> [(1, .int .i64 ((y:Nat):Int))]) [(0,_)] (fun y=> []) _ (fun y=> q.ds.length - y) (i0.toNat) (h0:=?_) (k:=?_))
 ·try dsimp only
  exact⟨Nat.le_refl _,aa,rfl⟩
 rintro i ⟨hi1,hi2,hfd⟩
 try dsimp only[Yd,Ye]at*
 refine go ?_
 refine d1_ rfl (Md (a:=a)) (k:=gk (k:=wi_ (k:=fun h1=>?_) (m:=fun h1=>?_)))
 ·have hil:i<q.ds.length:=by have h9:=h1;omega
  rw[DA hil]at hfd
  refine go ?_
  refine d2_ rfl (LY (n:=q.ds.length) (c:=a.cnt) (s:=a.ws) (ws:=q.dw) hil hq.n hq.wl hq.w) (k:=gk (k:=wi_ (k:=fun h2=>?_) (m:=fun h2=>?_)))
  ·rw[if_pos (aO)]at hfd
   refine gk (k:=rt_ Tryz.results116 (k:=?_))
   exact⟨_,hsb, .inl ⟨i,hfd,rfl⟩,rfl⟩
  rw[if_neg (aO)]at hfd
  refine go ?_
  refine ln_ (i+1) (k:=?_)
  try dsimp only
  exact⟨aa,aa,hfd⟩
 rw[show(List.range q.ds.length).drop i= []from List.drop_eq_nil_of_le (by rw[List.length_range];have h9:=h1;omega),List.find?_nil]at hfd
 refine gk (k:=rt_ Tryz.results116 (k:=?_))
 exact⟨_,hsb, .inr ⟨hfd,rfl⟩,rfl⟩
theorem ov {G:cK}{P:Program}{t:Tm}{H:cG}{dst:Option Tmp}{ty:TypeId}{pos:String}{after:Array Edge}{g:Option (Nat×Bool)}{T U:TypeId}{x y:Operand}{i j:Int}(hx:evo t x=some (.int .u64 i)) (hy:evo t y=some (.int .u64 j)) (a b:Nat) (ha:i=a) (hb:j=b) (h:a*b<18446744073709551616):
 Ev G P ⟨dst, .binOp .mul T x y U,ty,pos,after,g⟩ t H (.int .u64 ((a*b:Nat):Int)):=by
 have:=sD (G:=G) (P:=P) (H:=H) (dst:=dst) (ty:=ty) (pos:=pos) (after:=after) (g:=g) (T:=T) (U:=U) (k:= .u64) 18446744073709551616 rfl hx hy rfl a b ha hb
 rwa [Nat.mod_eq_of_lt h]at this
theorem xc (n:Nat):eu n≤1048576:=Nat.min_le_right _ _
theorem sW {G:cK}{H:cG}{n:Int}:SC G Tryz.prog 192 [.int .i64 n] H (fun v H'=> v= .int .u64 ((eu n.toNat:Nat):Int)∧H'=H):=by
 have hc:=xc n.toNat
 refine sWk Tryz.func192 Tryz.ntmps192 ?_
 refine ws_ (wr_ (e_ asn (k:=on_ (qn_ (ws_ (wr_ (e_ mv (k:=?_))))))))
 refine e_ (mO rfl rfl) (k:=?_)
 refine e_ (evq (mN rfl rfl) (congrArg (Value.int .i64) (show _=((eu n.toNat:Nat):Int)from by unfold eu;omega))) (k:=?_)
 refine e_ (cU 18446744073709551616 rfl rfl rfl (eu n.toNat) rfl (aa)) (k:=?_)
 refine gk (k:=rt_ Tryz.results192 (k:=?_))
 exact⟨_,hsb,rfl,rfl⟩
theorem PO {G:cK}{H:cG}{f l a:Int}:SC G Tryz.prog 164 [.int .i64 f, .int .i64 l, .int .i64 a] H (fun v H'=> v= .int .u64 ((Jc f.toNat l.toNat a.toNat:Nat):Int)∧H'=H):=by
 have hf:=xc f.toNat
 have hl:=xc l.toNat
 have ha:=xc a.toNat
 have hA1:1≤max (eu a.toNat) 1:=Nat.le_max_right _ _
 have hA2:max (eu a.toNat) 1≤1048576:=aa
 have hm1:10240*eu f.toNat*max (eu a.toNat) 1≤10240*1048576*1048576:=Nat.mul_le_mul (Nat.mul_le_mul (Nat.le_refl _) hf) hA2
 have hm2:10*eu f.toNat*max (eu a.toNat) 1≤10*1048576*1048576:=Nat.mul_le_mul (Nat.mul_le_mul (Nat.le_refl _) hf) hA2
 refine sWk Tryz.func164 Tryz.ntmps164 ?_
 refine go ?_
 refine d1_ rfl (sW) (k:=go ?_)
 refine d1_ rfl (sW) (k:=go ?_)
 refine d1_ rfl (sW) (k:=?_)
 refine e_ (evq (mO rfl rfl) (congrArg (Value.int .u64) (show _=((max (eu a.toNat) 1:Nat):Int)from aa))) (k:=?_)
 refine e_ asn (k:=e_ asn (k:=e_ asn (k:=on_ (qn_ (ws_ (wr_ (e_ mv (k:=?_))))))))
 refine e_ (ov rfl rfl 10240 (eu f.toNat) rfl rfl (aa)) (k:=?_)
 refine e_ mv (k:=?_)
 refine e_ (ov rfl rfl (10240*eu f.toNat) (max (eu a.toNat) 1) rfl rfl (aa)) (k:=?_)
 refine e_ mv (k:=?_)
 refine e_ (ov rfl rfl 10 (eu f.toNat) rfl rfl (aa)) (k:=?_)
 refine e_ mv (k:=?_)
 refine e_ (ov rfl rfl (10*eu f.toNat) (max (eu a.toNat) 1) rfl rfl (aa)) (k:=?_)
 refine e_ mv (k:=?_)
 refine e_ (ov rfl rfl 3 (max (eu a.toNat) 1) rfl rfl (aa)) (k:=?_)
 refine e_ (jY 18446744073709551616 rfl rfl rfl rfl (10*eu f.toNat*max (eu a.toNat) 1) (3*max (eu a.toNat) 1) rfl rfl (aa)) (k:=?_)
 refine e_ mv (k:=?_)
 refine e_ (ov rfl rfl 9 (eu l.toNat) rfl rfl (aa)) (k:=?_)
 refine e_ (jY 18446744073709551616 rfl rfl rfl rfl (10*eu f.toNat*max (eu a.toNat) 1+3*max (eu a.toNat) 1) (9*eu l.toNat) rfl rfl (aa)) (k:=?_)
 refine e_ (gn rfl rfl (10240*eu f.toNat*max (eu a.toNat) 1) (10*eu f.toNat*max (eu a.toNat) 1+3*max (eu a.toNat) 1+9*eu l.toNat) rfl rfl (aa) (by show _≤(18446744073709551615:Int);omega)) (k:=?_)
 refine gk (k:=rt_ Tryz.results164 (k:=?_))
 exact⟨_,hsb,rfl,rfl⟩
structure MX where
 pa:PrA
 all:Bool
 co:SV
 pt:PtA
 cu:SV
 cs:List Nat
structure MY where
 stk:List VV
 pl:Int
 pc:Nat
 st:Nat
 vi:Nat
abbrev mV (x:MX) (s:SV) (y:MY):List Value:= [x.pa.av.val,x.pa.cu.val,x.pa.ne.val, .bool x.all,x.pa.dr.val,x.pa.co.val,x.co.val, .pointer (some ⟨x.pt.p,0,none⟩),x.cu.val, .func (.func 75) #[] #[], .func (.func 76) #[] #[], .func (.func 78) #[] #[], .func (.func 79) #[] #[], .func (.func 80) #[] #[], .func (.func 81) #[] #[], .func (.func 82) #[] #[], .func (.func 85) #[] #[], .func (.func 87) #[] #[], .func (.func 89) #[] #[], .func (.func 91) #[] #[], .func (.func 93) #[] #[], .func (.func 95) #[] #[], .func (.func 96) #[] #[], .func (.func 97) #[] #[], .func (.func 98) #[] #[], .func (.func 101) #[] #[],s.val, .int .i64 y.pl, .int .i64 ((y.pc:Nat):Int), .int .i64 ((y.st:Nat):Int), .int .i64 ((y.vi:Nat):Int)]
def Mo (m:Nat) (z:MX×MY):Hp:=Ex fun s:SV=> [Vr m (mV z.1 s z.2),Row s eVV z.2.stk]
theorem jB {m:Nat}{x:MX}{y:MY}{s:SV}{R:cG}:cJ (Vr m (mV x s y)::Row s eVV y.stk::R) (Mo m (x,y)::R):=sA (K:=Mo) (i:=m) (a:=(x,y)) rfl s
theorem nN {G:cK}{P:Program}{H:cG}{f:FuncId}{args:List Value}{K:Value→cG→Prop}{R:cG}{m:Nat}{x:MX}{y:MY}(hr:Rem H Mo m (x,y) R) (h:∀s:SV,SC G P f args (Vr m (mV x s y)::Row s eVV y.stk::R) K):SC G P f args H K:=
 ⟨(h SV.nil).enter,fun w hw=> let ⟨s,hs⟩:=mo (K:=Mo) rfl hr hw;(h s).call w hs⟩
theorem nF {G:cK}{H R:cG}{m:Nat}{x:MX}{y:MY}{a:Bool}{b:Nat} [hr:Rem H Mo m (x,y) R] (hl:y.stk.length≤1000000000):SC G Tryz.prog 77 [.pointer (some ⟨m,0,none⟩), .agg [.bool a, .int .u64 ((b:Nat):Int)].toArray] H (fun v H'=> v= .tuple #[]∧H'=Mo m (x,{y with stk:=y.stk++ [(a,b)]})::R):=by
 refine nN hr (fun s=> ?_)
 refine sWk Tryz.func77 Tryz.ntmps77 ?_
 refine gk (k:=bxx (k:=fun b3=>?_))
 refine go ?_
 refine df cI (fun i=> [6,7,10].contains i) (fun k H=> (k=4→cQ H m (mV x s y))∧(k=5→cQ H b3 [.bool a, .int .u64 ((b:Nat):Int)])) (af_ 0 (q:=cD fun H hH=>mv) (k:=af_ 1 (q:=cD fun H hH=>mv) (k:=af_ 2 (q:=cD fun H hH=>nck) (k:=af_ 3 (q:=cD fun H hH=>fla) (k:=?_)))))
 refine cE 4 rfl rfl (a8) rfl (cD fun H hH=>ak) (?_)
 refine cE 5 rfl rfl (a8) rfl (cD fun H hH=>by have hN:=hH.2 rfl;exact lds) (?_)
 refine cN 6 rfl (a8) rfl (fun k hk=> ⟨fun hi=> ab,fun hi=> ab⟩) (ew eVV rfl rfl) ?_
 rintro _ _ ⟨s10,rfl,rfl⟩
 refine cN 7 rfl (a8) rfl (fun k hk=> ⟨fun hi=> ab,fun hi=> absurd hk (ad)⟩) (eY rfl rfl rfl rfl (af) (af)) ?_
 rintro _ _ ⟨s11,rfl,rfl⟩
 refine af_ 8 (q:=cD fun H hH=>nck) (k:=af_ 9 (q:=cD fun H hH=>fla) (k:=?_))
 refine cN 10 rfl (a8) rfl (fun k hk=> ⟨fun hi=> absurd hk (ad),fun hi=> absurd hk (ad)⟩) (dM rfl rfl rfl) ?_
 rintro _ _ ⟨rfl,rfl⟩
 refine db (a8) (fun k hk=> ⟨fun hi=> absurd hk (ad),fun hi=> absurd hk (ad)⟩) (rt_ Tryz.results77 (k:=?_))
 exact⟨_,cJ.trans (hsb) (jB (x:=x) (y:={y with stk:=y.stk++ [(a,b)]}) (s:=s11)),rfl,rfl⟩
theorem Ij {l:List VV}(h:0<l.length):l[l.length - 1]? =some (fR l):=by
 rw[fR,List.getLast?_eq_getElem?,Yi (aa)];all_goals rfl
theorem Ly {G:cK}{H:cG}{m:Nat}{x:MX}{y:MY}{s:SV} [hm:cQ H m (mV x s y)] [hs:Sl H s eVV y.stk] (h0:0<y.stk.length) (hl:y.stk.length≤1000000000):SC G Tryz.prog 100 [.pointer (some ⟨m,0,none⟩)] H (fun v H'=> v= .agg [.bool (fR y.stk).1, .int .u64 (((fR y.stk).2:Nat):Int)].toArray∧H'=H):=by
 have hg:=Ij h0
 refine sWk Tryz.func100 Tryz.ntmps100 ?_
 refine gk (k:=alc (k:=fun b2=>?_))
 refine go ?_
 refine df cI (fun i=> [12].contains i) (fun k H=> (k=3→cQ H m (mV x s y))∧(k=7→cQ H m (mV x s y))∧(k=8→Sl H s eVV y.stk)∧(k=10→Sl H s eVV y.stk)∧(k=11→Sl H s eVV y.stk)) (af_ 0 (q:=cD fun H hH=>mv) (k:=af_ 1 (q:=cD fun H hH=>nck) (k:=af_ 2 (q:=cD fun H hH=>fla) (k:=?_))))
 refine cE 3 rfl rfl (a8) rfl (cD fun H hH=>ak) (?_)
 refine af_ 4 (q:=cD fun H hH=>mv) (k:=af_ 5 (q:=cD fun H hH=>nck) (k:=af_ 6 (q:=cD fun H hH=>fla) (k:=?_)))
 refine cE 7 rfl rfl (a8) rfl (cD fun H hH=>ar) (?_)
 refine cE 8 rfl rfl (a8) rfl (cD fun H hH=>cf) (?_)
 refine af_ 9 (q:=cD fun H hH=>isb) (k:=?_)
 refine cE 10 rfl rfl (a8) rfl (cD fun H hH=>bV) (?_)
 refine cE 11 rfl rfl (a8) rfl (cD fun H hH=>by have hN:=hH.2.2.2.2 rfl;exact jn (hy:=hg)) (?_)
 refine cN 12 rfl (a8) rfl (fun k hk=> ⟨fun hi=> ab,fun hi=> ab,fun hi=> ab,fun hi=> ab,fun hi=> ab⟩) (dM rfl rfl rfl) ?_
 rintro _ _ ⟨rfl,rfl⟩
 refine db (a8) (fun k hk=> ⟨fun hi=> absurd hk (ad),fun hi=> absurd hk (ad),fun hi=> absurd hk (ad),fun hi=> absurd hk (ad),fun hi=> absurd hk (ad)⟩) (gk (k:=rt_ Tryz.results100 (k:=?_)))
 exact⟨_,hsb,rfl,rfl⟩
theorem tw {α:Type}{s:SV}{e:Enc α}{xs:List α}{k:Nat}{H:cG}(hk:k≤xs.length):cJ (Row s e xs::H) (Row (s.cut e.sz 0 k) e (xs.take k)::H):=fun L hL=> by
 obtain⟨L1,L2,rfl,h1,h2⟩:=hL
 refine⟨L1++L2, [],⟨L1,L2,rfl,?_,h2⟩,an⟩
 rcases h1 with⟨rfl,rfl,rfl⟩|⟨b,C,E,fz,q1,q2,q3,rfl,q5,q6,q7⟩
 ·obtain rfl:k=0:=by simpa using hk
  exact .inl ⟨rfl,rfl,rfl⟩
 ·refine .inr ⟨b,C,E,fz,?_,?_,?_,rfl,?_,q6,fun j v hv=> q7 j v ?_⟩
  ·show(if s.c=0 then s.a else s.a.map (·.add (0*e.sz)))=_
   split
   ·exact q1
   ·rw[q1];simp[Addr.add]
  ·show k - 0=(xs.take k).length
   rw[Yg];omega
  ·show k - 0≤s.c - 0
   omega
  ·show C.size=(s.c - 0)*e.sz
   rw[Nat.sub_zero];exact q5
  ·rw[Enc.all_take,List.getElem?_take]at hv
   split at hv
   ·exact hv
   ·cases hv
theorem ET {G:cK}{H R:cG}{m:Nat}{x:MX}{y:MY} [hr:Rem H Mo m (x,y) R] (h0:0<y.stk.length) (hl:y.stk.length≤1000000000):SC G Tryz.prog 94 [.pointer (some ⟨m,0,none⟩)] H (fun v H'=> v= .agg [.bool (fR y.stk).1, .int .u64 (((fR y.stk).2:Nat):Int)].toArray∧H'=Mo m (x,{y with stk:=y.stk.dropLast})::R):=by
 refine nN hr (fun s=> ?_)
 refine sWk Tryz.func94 Tryz.ntmps94 ?_
 refine gk (k:=alc (k:=fun b2=>?_))
 refine go ?_
 refine d1_ rfl (Ly (x:=x) (y:=y) (s:=s) h0 hl) (k:=alc (k:=fun b3=>?_))
 refine go ?_
 refine df cI (fun i=> [14].contains i) (fun k H=> (k=4→cQ H m (mV x s y))∧(k=8→cQ H m (mV x s y))∧(k=9→Sl H s eVV y.stk)∧(k=11→Sl H s eVV y.stk)) (af_ 0 (q:=cD fun H hH=>mv) (k:=af_ 1 (q:=cD fun H hH=>mv) (k:=af_ 2 (q:=cD fun H hH=>nck) (k:=af_ 3 (q:=cD fun H hH=>fla) (k:=?_)))))
 refine cE 4 rfl rfl (a8) rfl (cD fun H hH=>ak) (?_)
 refine af_ 5 (q:=cD fun H hH=>mv) (k:=af_ 6 (q:=cD fun H hH=>nck) (k:=af_ 7 (q:=cD fun H hH=>fla) (k:=?_)))
 refine cE 8 rfl rfl (a8) rfl (cD fun H hH=>ar) (?_)
 refine cE 9 rfl rfl (a8) rfl (cD fun H hH=>cf) (?_)
 refine af_ 10 (q:=cD fun H hH=>isb) (k:=?_)
 refine cE 11 rfl rfl (a8) rfl (cD fun H hH=>by have hN:=hH.2.2.2 rfl;exact eL rfl (bQ) 0 (y.stk.length - 1) rfl ⟨_,_,rfl,aa⟩ (aa) (aa)) (?_)
 refine af_ 12 (q:=cD fun H hH=>nck) (k:=af_ 13 (q:=cD fun H hH=>fla) (k:=?_))
 refine cN 14 rfl (a8) rfl (fun k hk=> ⟨fun hi=> ab,fun hi=> ab,fun hi=> ab,fun hi=> ab⟩) (dM rfl rfl rfl) ?_
 rintro _ _ ⟨rfl,rfl⟩
 refine db (a8) (fun k hk=> ⟨fun hi=> absurd hk (ad),fun hi=> absurd hk (ad),fun hi=> absurd hk (ad),fun hi=> absurd hk (ad)⟩) (gk (k:=rt_ Tryz.results94 (k:=?_)))
 refine⟨_,?_,rfl,rfl⟩
 refine cJ.trans (H':=Row s eVV y.stk::Vr m (mV x (s.cut 2 0 (y.stk.length - 1)) y)::R) (hsb) ((tw (k:=y.stk.length - 1) (aa)).trans ?_)
 rw[←List.dropLast_eq_take]
 exact cJ.trans (hsb) (jB (x:=x) (y:={y with stk:=y.stk.dropLast}) (s:=s.cut 2 0 (y.stk.length - 1)))
theorem KN {G:cK}{H R:cG}{m:Nat}{x:MX}{y:MY}{yes:Bool}{op A B:Nat} [hr:Rem H Mo m (x,y) R] (hA:A≤1000000000) (hp:y.pc≤1000000000):SC G Tryz.prog 99 [.pointer (some ⟨m,0,none⟩), .bool yes, .agg [.int .i64 ((op:Nat):Int), .int .u64 ((A:Nat):Int), .int .u64 ((B:Nat):Int)].toArray] H (fun v H'=> v= .tuple #[]∧H'=Mo m (x,{y with pc:=if yes=true then y.pc+A else y.pc})::R):=by
 refine nN hr (fun s=> ?_)
 refine sWk Tryz.func99 Tryz.ntmps99 ?_
 refine gk (k:=bxx (k:=fun b5=>?_))
 refine gk (k:=wi_ (k:=fun h1=>?_) (m:=fun h1=>?_))
 ·have hy:yes=true:=h1
  refine df cI (fun i=> [10].contains i) (fun k H=> (k=3→cQ H m (mV x s y))∧(k=5→cQ H b5 [.int .i64 ((op:Nat):Int), .int .u64 ((A:Nat):Int), .int .u64 ((B:Nat):Int)])) (af_ 0 (q:=cD fun H hH=>mv) (k:=af_ 1 (q:=cD fun H hH=>nck) (k:=af_ 2 (q:=cD fun H hH=>fla) (k:=?_))))
  refine cE 3 rfl rfl (a8) rfl (cD fun H hH=>ak) (?_)
  refine af_ 4 (q:=cD fun H hH=>fla) (k:=?_)
  refine cE 5 rfl rfl (a8) rfl (cD fun H hH=>aE) (?_)
  refine cE 6 rfl rfl (a8) rfl (cD fun H hH=>dy rfl (aa)) (?_)
  refine af_ 7 (q:=cD fun H hH=>iad) (k:=af_ 8 (q:=cD fun H hH=>nck) (k:=af_ 9 (q:=cD fun H hH=>fla) (k:=?_)))
  refine cN 10 rfl (a8) rfl (fun k hk=> ⟨fun hi=> ab,fun hi=> ab⟩) (dM rfl rfl rfl) ?_
  rintro _ _ ⟨rfl,rfl⟩
  refine db (a8) (fun k hk=> ⟨fun hi=> absurd hk (ad),fun hi=> absurd hk (ad)⟩) (rt_ Tryz.results99 (k:=?_))
  rw[if_pos hy];exact⟨_,cJ.trans (hsb) (jB (x:=x) (y:={y with pc:=y.pc+A}) (s:=s)),rfl,rfl⟩
 have hy:¬yes=true:=bL
 refine gk (k:=rt_ Tryz.results99 (k:=?_))
 rw[if_neg hy];exact⟨_,cJ.trans (hsb) (jB (x:=x) (y:=y) (s:=s)),rfl,rfl⟩
theorem PY {G:cK}{H R:cG}{m:Nat}{x:MX}{y:MY}{op A B:Nat} [hr:Rem H Mo m (x,y) R] (h0:0<y.stk.length) (hl:y.stk.length≤1000000000):SC G Tryz.prog 96 [.pointer (some ⟨m,0,none⟩), .agg [.int .i64 ((op:Nat):Int), .int .u64 ((A:Nat):Int), .int .u64 ((B:Nat):Int)].toArray] H (fun v H'=> v= .tuple #[]∧H'=Mo m (x,{y with stk:=nu y.stk fun a=> if a.1=true then(true,w64 (A*262144))else(false,0)})::R):=by
 have hdl:y.stk.dropLast.length≤1000000000:=by rw[List.length_dropLast];omega
 refine sWk Tryz.func96 Tryz.ntmps96 ?_
 refine gk (k:=bxx (k:=fun b3=>?_))
 refine go ?_
 refine d1_ rfl (ET h0 hl) (k:=?_)
 refine e_ (gA (ft:=4) (off:=0) Tryz.underlying171 rfl rfl rfl) (k:=?_)
 refine gk (k:=wi_ (k:=fun h1=>?_) (m:=fun h1=>?_))
 ·have ht:(fR y.stk).1=true:=h1
  have hst:y.stk.dropLast++ [(true,A*262144 % 18446744073709551616)]=nu y.stk fun a=> if a.1=true then(true,w64 (A*262144))else(false,0):=by rw[nu,if_pos ht];all_goals rfl
  refine wr_ (e_ mv (k:=e_ fla (k:=e_ ldv (k:=?_))))
  refine e_ (sD 18446744073709551616 rfl rfl rfl rfl _ 262144 rfl rfl) (k:=?_)
  refine e_ (bld [(0,_),(1,_)]) (k:=?_)
  refine d2_ rfl (nF hdl) (k:=gk (k:=rt_ Tryz.results96 (k:=?_)))
  rw[←hst];exact⟨_,hsb,rfl,rfl⟩
 have ht:¬(fR y.stk).1=true:=bL
 have hst:y.stk.dropLast++ [(false,0)]=nu y.stk fun a=> if a.1=true then(true,w64 (A*262144))else(false,0):=by rw[nu,if_neg ht]
 refine wr_ (e_ mv (k:=e_ (bld []) (k:=?_)))
 refine d2_ rfl (nF (a:=false) (b:=0) hdl) (k:=gk (k:=rt_ Tryz.results96 (k:=?_)))
 rw[←hst];exact⟨_,hsb,rfl,rfl⟩
end Go.Sx
