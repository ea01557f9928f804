import Derived.Test.YtefgpomabdplbaaGreatDoorQ36
set_option linter.unusedVariables false
set_option linter.unusedSimpArgs false
set_option linter.unusedSectionVars false
set_option linter.unnecessarySimpa false
set_option maxHeartbeats 0
namespace Go.Sx
open Go Go.Proofs
set_option maxRecDepth 100000
theorem L8:∀{l:List Po}{nb:Nat},fW nb l→∀(i j:Nat) (p q:Po),i<j→l[i]? =some p→l[j]? =some q→p.1<q.1
 | [],_,_,i,j,p,q,_,h,_=> aG
 |a::l,nb,hk,i,j,p,q,hij,hp,hq=> by
  obtain⟨j,rfl⟩:∃k,j=k+1:=⟨j - 1,aa⟩
  rw[Xc]at hq
  cases i with
  |zero=>
   simp at hp;subst hp
   have h1:=(ij hk.2.2.2 hq).1
   have h2:a.1+1≤dS (a.1+1) (l.take j):=by
    rcases Nat.eq_zero_or_pos j with rfl|hj
    ·simp[lQ]
    ·refine Nat.le_of_lt (tO (nb:=0) (qO j hk.2.2.2) ?_)
     intro e
     have e2:=congrArg List.length e
     rw[Yg,Yc]at e2
     have e3:=(Yk.1 hq).1
     omega
   omega
  |succ i=>
   rw[Xc]at hp
   exact L8 hk.2.2.2 i j p q (aa) hp hq
theorem Jp {l:List Po}(h:fW 0 l) {j:Nat}{p:Po}(hp:l[j]? =some p):p.1≤(iZ l (j / 16)).1:=by
 have hj:=(Yk.1 hp).1
 obtain⟨hb1,hb2,hb3⟩:=HA hj
 have hbn:=kQ hb1
 obtain⟨q,hq⟩:∃q,(de l (j / 16))[(de l (j / 16)).length - 1]? =some q:=⟨_,Yi (aa)⟩
 have h1:=zu h hb1 hq
 have h2:l[16*(j / 16)+((de l (j / 16)).length - 1)]? =some q:=by rw[←w2 (aa)];exact hq
 show p.1≤(cO l (j / 16+1)).1 - 1
 rcases Nat.lt_or_ge j (16*(j / 16)+((de l (j / 16)).length - 1))with h3|h3
 ·have:=L8 h _ _ _ _ h3 hp h2;omega
 ·have:j=16*(j / 16)+((de l (j / 16)).length - 1):=by omega
  rw[this]at hp
  rw[hp]at h2;cases h2;omega
theorem Oc {l:List Po}(h:fW 0 l) (hs:e8 l) {i j:Nat}(hij:i≤j) (hj:j<dk l):(iZ l i).1≤(iZ l j).1:=by
 have key:∀d,i+d<dk l→(cO l (i+1)).1≤(cO l (i+d+1)).1:=by
  intro d
  induction d with
  |zero=> intro _;exact Nat.le_refl _
  |succ d ih=>
   intro hd
   have h1:=ih (aa)
   have h2:=q9 h (k:=i+d+1) (aa)
   rw[show i+(d+1)+1=i+d+1+1 from aa];omega
 have h3:=key (j - i) (aa)
 rw[show i+(j - i)+1=j+1 from aa]at h3
 show(cO l (i+1)).1 - 1≤(cO l (j+1)).1 - 1
 omega
theorem KX {G:cK}{H:cG}{b:Nat}{d:Int}{l:List Value} [hv:cQ H b (.int .i64 d::l)]:SC G Tryz.prog 117 [.pointer (some ⟨b,0,none⟩)] H (fun v H'=> v= .int .i64 d∧H'=H):=by
 refine sWk Tryz.func117 Tryz.ntmps117 ?_
 refine go ?_
 refine gk (k:=rt_ Tryz.results117 (k:=?_))
 exact⟨_,hsb,rfl,rfl⟩
theorem BC {G:cK}{H:cG}{b:Nat}{d m:Int}{l:List Value} [hv:cQ H b (.int .i64 d:: .int .i64 m::l)]:SC G Tryz.prog 64 [.pointer (some ⟨b,0,none⟩)] H (fun v H'=> v= .int .i64 m∧H'=H):=by
 refine sWk Tryz.func64 Tryz.ntmps64 ?_
 refine go ?_
 refine gk (k:=rt_ Tryz.results64 (k:=?_))
 exact⟨_,hsb,rfl,rfl⟩
theorem IC {G:cK}{H:cG}{b2 b7 b3 b i fr:Nat}{t:Int}{lp:Option Nat}{im sk:SV}{ps:List Po}{v0 v1 v3 v4 v5 v6:Value} [cQ H b2 [.pointer (some ⟨b,0,none⟩)]] [cQ H b7 [.int .i64 ((fr:Nat):Int)]] [cQ H b3 [.int .i64 t]] [cQ H b [v0,v1,lpV lp,v3,v4,v5,v6]] [hl:zI H lp im sk ps] (hn:lp=none→ps= []) (hi:fr+i<dk ps) (hs:ps.length≤100000):SC G Tryz.prog 189 [.int .i64 ((i:Nat):Int), .pointer (some ⟨b2,0,none⟩), .pointer (some ⟨b7,0,none⟩), .pointer (some ⟨b3,0,none⟩)] H (fun v H'=> v= .bool (decide (t≤(((iZ ps (fr+i)).1:Nat):Int)))∧H'=H):=by
 have hpn:ps≠ []:=fun e=> by subst e;unfold dk at hi;simp at hi
 obtain⟨p,rfl⟩:∃p,lp=some p:=by cases lp with|none=> exact absurd (hn rfl) hpn|some p=> exact⟨p,rfl⟩
 obtain⟨hv1,hv2,hv3⟩:=hl.at_ p rfl
 have hget:=ka hi
 have hbl:dk ps≤ps.length:=by unfold dk;unfold dk at hi;omega
 refine sWk Tryz.func189 Tryz.ntmps189 ?_
 refine go ?_
 refine df cI (fun i=> [11,12].contains i) (fun k H=> (k=0→cQ H b2 [.pointer (some ⟨b,0,none⟩)])∧(k=3→cQ H b [v0,v1,lpV (some p),v3,v4,v5,v6])∧(k=4→cQ H b7 [.int .i64 ((fr:Nat):Int)])∧(k=7→cQ H p [im.val, .int .i64 ((ps.length:Nat):Int), .int .i64 ((dg ps:Nat):Int),sk.val]∧Sl H sk eSk (fj ps))) (?_)
 refine cE 0 rfl rfl (a8) rfl (cD fun H hH=>ak) (?_)
 refine af_ 1 (q:=cD fun H hH=>nck) (k:=af_ 2 (q:=cD fun H hH=>fla) (k:=?_))
 refine cE 3 rfl rfl (a8) rfl (cD fun H hH=>ar) (?_)
 refine cE 4 rfl rfl (a8) rfl (cD fun H hH=>aF) (?_)
 refine af_ 5 (q:=cD fun H hH=>mv) (k:=?_)
 refine cE 6 rfl rfl (a8) rfl (cD fun H hH=>evq iad (congrArg (Value.int .i64) (show _=((fr+i:Nat):Int)from aa))) (?_)
 refine cE 7 rfl rfl (a8) rfl (fun H hH=> by have hN:=hH.2.2.2 rfl;obtain⟨h1,h2⟩:=hN;exact cW (vs:= [_,_]) rfl (LG (b:=p) hget)) (?_)
 refine af_ 8 (q:=cD fun H hH=>mv) (k:=af_ 9 (q:=cD fun H hH=>exr) (k:=af_ 10 (q:=cD fun H hH=>exr) (k:=?_)))
 refine cN 11 rfl (a8) rfl (fun k hk=> ⟨fun hi=> ax,fun hi=> ax,fun hi=> ax,fun hi=> ax⟩) (nK) ?_
 rintro _ _ ⟨b6,rfl,rfl⟩
 refine cN 12 rfl (a8) rfl (fun k hk=> ⟨fun hi=> ax,fun hi=> ax,fun hi=> ax,fun hi=> ax⟩) (dM rfl rfl rfl) ?_
 rintro _ _ ⟨rfl,rfl⟩
 refine af_ 13 (q:=cD fun H hH=>asn) (k:=db (a8) (fun k hk=> ⟨fun hi=> absurd hk (ad),fun hi=> absurd hk (ad),fun hi=> absurd hk (ad),fun hi=> absurd hk (ad)⟩) (gk (k:=rt_ Tryz.results189 (k:=?_))))
 exact⟨_,hsb,rfl,rfl⟩
theorem M6 {G:cK}{H R:cG}{b:Nat}{c:CuS}{t:Int} [hg:Glb G R] [hr:Rem H CuH b c R] (hu:c.u≤c.ps.length):SC G Tryz.prog 160 [.pointer (some ⟨b,0,none⟩), .int .i64 t] H (fun v H'=> v= .int .i64 ((qf c.ps c.u t:Nat):Int)∧H'=CuH b c::R):=by
 refine sWk Tryz.func160 Tryz.ntmps160 ?_
 refine go ?_
 refine wB b fun lp im sk rd zs blk hc hn hbk=> ?_
 have hpl:=hc.small.1
 have hfr:c.u / 16≤100000:=aa
 have hbl:dk c.ps=(c.ps.length+15) / 16:=rfl
 refine bxx (k:=fun b2=>?_)
 refine bxx (k:=fun b3=>?_)
 refine go ?_
 refine cX cI (as_ 0 (q:=ldv) (k:=?_))
 refine cE 1 rfl rfl (a8) rfl (gQ (vs:= [_]) rfl (wg hn)) (?_)
 refine as_ 2 (q:=ldv) (k:=as_ 3 (q:=nck) (k:=as_ 4 (q:=fla) (k:=as_ 5 (q:=ldv) (k:=?_))))
 refine cE 6 rfl rfl (a8) rfl (dz (evq iad (congrArg (Value.int .i64) (show _=((c.u:Nat):Int)from aa)))) (?_)
 refine as_ 7 (q:=asn) (k:=as_ 8 (q:=asn) (k:=az_ (k:=qn_ (ws_ (wr_ (e_ mv (k:=?_)))))))
 refine e_ (gn rfl rfl c.u 16 rfl rfl (ag) (aq)) (k:=?_)
 refine alc (k:=fun b7=>?_)
 refine sto (k:=on_ (qn_ (ws_ (wr_ (e_ mv (k:=e_ iad (k:=?_)))))))
 refine e_ (evq isb (congrArg (Value.int .i64) (show _=((c.ps.length+15:Nat):Int)from aa))) (k:=?_)
 refine e_ (gn rfl rfl (c.ps.length+15) 16 rfl rfl (ag) (aq)) (k:=?_)
 refine go ?_
 refine df cI (fun i=> [6].contains i) (fun k H=> (k=0→cQ H b7 [.int .i64 ((c.u / 16:Nat):Int)])∧(k=2→cQ H b7 [.int .i64 ((c.u / 16:Nat):Int)])) (?_)
 refine cE 0 rfl rfl (a8) rfl (cD fun H hH=>ak) (?_)
 refine af_ 1 (q:=cD fun H hH=>mv) (k:=?_)
 refine cE 2 rfl rfl (a8) rfl (cD fun H hH=>aE) (?_)
 refine af_ 3 (q:=cD fun H hH=>isb) (k:=?_)
 refine cE 4 rfl rfl (a8) rfl (cD fun H hH=>evq (mO rfl rfl) (congrArg (Value.int .i64) (show _=(((c.ps.length+15) / 16 - c.u / 16:Nat):Int)from aa))) (?_)
 refine af_ 5 (q:=cD fun H hH=>mkf) (k:=?_)
 refine cN 6 rfl (a8) rfl (fun k hk=> ⟨fun hi=> ab,fun hi=> ab⟩) (cW (vs:= [_,_]) rfl (Bw (n:=(c.ps.length+15) / 16 - c.u / 16) (fi:= []) (ca:= [.pointer (some ⟨b2,0,none⟩), .pointer (some ⟨b7,0,none⟩), .pointer (some ⟨b3,0,none⟩)]) (p:=fun i=> decide (t≤(((iZ c.ps (c.u / 16+i)).1:Nat):Int))) (aa) (fun i hi=> IC (b:=b) (ps:=c.ps) hn (aa) (aa)) (fun x y h1 h2 h3=> by
  have h4:=Oc hc.ok hc.small (i:=c.u / 16+x) (j:=c.u / 16+y) (aa) (aa)
  have h5:=Yt h3
  exact Ys (aa)))) ?_
 rintro _ _ ⟨⟨k,rfl,hk1,hk2,hk3⟩,rfl⟩
 obtain⟨K,hK⟩:∃K,K=c.u / 16+k:=⟨_,rfl⟩
 obtain⟨q0,hq0⟩:∃q0,q0=max c.u (16*K):=⟨_,rfl⟩
 have hlow:∀j p,c.u≤j→j<q0→c.ps[j]? =some p→(p.1:Int)<t:=fun j p h1 h2 h3=> by
  have h4:=Jp hc.ok h3
  have h5:=hk2 (j / 16 - c.u / 16) (aa)
  have h6:=of_decide_eq_false h5
  rw[show c.u / 16+(j / 16 - c.u / 16)=j / 16 from aa]at h6
  omega
 refine cE 7 rfl rfl (a8) rfl (cD fun H hH=>evq iad (congrArg (Value.int .i64) (show _=((K:Nat):Int)from aa))) (?_)
 refine af_ 8 (q:=cD fun H hH=>asn) (k:=db (a8) (fun k hk=> ⟨fun hi=> ab,fun hi=> ab⟩) (qn_ (ws_ (ws_ (wr_ (e_ mv (k:=e_ mv (k:=?_))))))))
 refine e_ (evq iml (congrArg (Value.int .i64) (show _=((16*K:Nat):Int)from aa))) (k:=?_)
 refine e_ (evq (mO rfl rfl) (congrArg (Value.int .i64) (show _=((q0:Nat):Int)from aa))) (k:=?_)
 refine gk (k:=dt (Nat×SV×(List PG)×Int) (fun y=> c.u≤y.1∧uH c.ps y.2.2.1 y.2.2.2∧y.1≤q0+c.ps.length∧∀j p,c.u≤j→j<y.1→c.ps[j]? =some p→(p.1:Int)<t) (fun y=> [(10, .int .i64 ((y.1:Nat):Int))]) [(2,_),(3,_),(5,_)] (fun y=> [Vr b [.int .i64 (gJ c.ps c.u), .int .i64 ((c.mv:Nat):Int),lpV lp, .int .i64 (((c.u:Nat):Int) - 1), .int .i64 y.2.2.2,y.2.1.val, .bool c.told],Row y.2.1 ePo (y.2.2.1.map pgV),Cl pgH y.2.2.1]) _ (fun y=> c.ps.length - y.1) ((q0,rd,zs,blk)) (h0:=?_) (k:=?_))
 ·try dsimp only
  exact⟨aa,hbk,aa,hlow⟩
 rintro⟨q,rd,zs,blk⟩ ⟨hqu,hbk,hqn,hlow⟩
 try dsimp only[Yd,Ye]at*
 refine gk (k:=wi_ (k:=fun h1=>?_) (m:=fun h1=>?_))
 ·refine go ?_
  refine df cI (fun i=> [2].contains i) (fun k H=> (k=0→cQ H b2 [.pointer (some ⟨b,0,none⟩)])∧(k=4→cQ H b3 [.int .i64 t])) (?_)
  refine cE 0 rfl rfl (a8) rfl (cD fun H hH=>ak) (?_)
  refine af_ 1 (q:=cD fun H hH=>mv) (k:=?_)
  refine cE 4 rfl rfl (a8) rfl (cD fun H hH=>aE) (?_)
  refine cN 2 rfl (a8) rfl (fun k hk=> ⟨fun hi=> ab,fun hi=> ab⟩) (cW (vs:= [_,_]) rfl (xK hn hbk hc.ok hc.small hc.tot (aa))) ?_
  rintro _ _ ⟨rd2,zs2,blk2,z,hbk2,hzq,hzs,rfl,rfl⟩
  refine cE 3 rfl rfl (a8) rfl (cD fun H hH=>gA (ft:=3) (off:=0) Tryz.underlying237 rfl rfl rfl) (?_)
  refine af_ 5 (q:=cD fun H hH=>ige) (k:=db (a8) (fun k hk=> ⟨fun hi=> absurd hk (ad),fun hi=> ab⟩) (gk (k:=wi_ (k:=fun h2=>?_) (m:=fun h2=>?_))))
  ·have h9t:t≤((z.d:Nat):Int):=h2
   have hres:qf c.ps c.u t=q:=GZ hqu (aa) hlow (fun p hp=> by rw[hzq]at hp;cases hp;exact h9t)
   refine gk (k:=rt_ Tryz.results160 (k:=?_))
   exact⟨CuH b c::R,cJ.trans (hsb) (m6 (c:=c) (x:=⟨lp,im,sk,rd2,zs2,blk2⟩) ⟨hc,hn,hbk2⟩),by rw[hres];all_goals rfl,rfl⟩
  refine go ?_
  refine ln_ ((q+1,rd2,zs2,blk2)) (k:=?_)
  try dsimp only
  refine⟨aa,hbk2,aa,fun j p h1 h2 h3=> ?_⟩
  rcases Nat.lt_or_ge j q with h4|h4
  ·exact hlow j p h1 h4 h3
  ·obtain rfl:j=q:=by omega
   rw[hzq]at h3;cases h3
   show((z.d:Nat):Int)<t
   omega
 refine gk (k:=rt_ Tryz.results160 (k:=?_))
 exact⟨CuH b c::R,cJ.trans (hsb) (m6 (c:=c) (x:=⟨lp,im,sk,rd,zs,blk⟩) ⟨hc,hn,hbk⟩),congrArg (fun n:Nat=> Value.int .i64 (n:Int)) (GZ hu (Nat.le_refl _) (fun j p h1 h2 h3=> hlow j p h1 (aa) h3) (fun p hp=> by simp at hp)).symm,rfl⟩
theorem O2 {G:cK}{H R:cG}{b q:Nat}{c:CuS} [hg:Glb G R] [hr:Rem H CuH b c R] (hq1:c.u≤q) (hq2:q≤c.ps.length):SC G Tryz.prog 159 [.pointer (some ⟨b,0,none⟩), .int .i64 ((q:Nat):Int)] H (fun v H'=> v= .int .i64 (gJ c.ps (q+1))∧H'=CuH b (goC c q)::R):=by
 refine sWk Tryz.func159 Tryz.ntmps159 ?_
 refine ws_ (wr_ (?_))
 refine wB b fun lp im sk rd zs blk hc hn hbk=> ?_
 have hpl:=hc.small.1
 have hmv:=hc.mvle
 have hmg:=G5 hq1 hq2
 have hgo:=hc.go hq1 hq2
 have hmdef:mvG c.ps.length c.u q=if q<c.ps.length∧c.u / 16=q / 16 then q+1 - c.u else if q<c.ps.length then q / 16 - c.u / 16+q % 16+1 else if c.u=c.ps.length then 1 else(c.ps.length+15) / 16 - c.u / 16+1:=rfl
 refine go ?_
 refine cX cI (as_ 0 (q:=mv) (k:=?_))
 refine cE 1 rfl rfl (a8) rfl (gQ (vs:= [_]) rfl (wg hn)) (?_)
 refine as_ 2 (q:=mv) (k:=as_ 3 (q:=nck) (k:=as_ 4 (q:=fla) (k:=as_ 5 (q:=ldv) (k:=?_))))
 refine cE 6 rfl rfl (a8) rfl (dz (evq iad (congrArg (Value.int .i64) (show _=((c.u:Nat):Int)from aa)))) (?_)
 refine as_ 7 (q:=asn) (k:=as_ 8 (q:=asn) (k:=az_ (k:=qn_ (w7 (Nat) (fun y=> y=c.mv+mvG c.ps.length c.u q) (fun y=> []) [14,15,16,17,18,19,20,21,22,23,24,25,26,27,28,29,30,31,32,33,34,35,36,37,38,39,40,41,42,43,44,45,46,47,48,49,50,51,52,53,54,55,56,57,58,59,60,61,62,63,64,65,66,67,68,69,70,71,72,73,74,75,76,77,78,79,80,81,82,83,84,85,86,87,88,89,90,91] (fun y=> [Vr b [.int .i64 (gJ c.ps c.u), .int .i64 ((y:Nat):Int),lpV lp, .int .i64 (((c.u:Nat):Int) - 1), .int .i64 blk,rd.val, .bool c.told]]) (LPh lp im sk c.ps::Row rd ePo (zs.map pgV)::Cl pgH zs::R) ?_ ?_))))
 ·refine wb_ (ws_ (wr_ (e_ mv (k:=e_ mv (k:=e_ ilt (k:=e_ mv (k:=dh 6 41 (k:=fun h1=>eg_ mv (k:=eg_ (gn rfl rfl c.u 16 rfl rfl (ag) (aq)) (k:=eg_ mv (k:=eg_ (gn rfl rfl q 16 rfl rfl (ag) (aq)) (k:=eg_ ieq (k:=e_ pkt (k:=on_ (edq)))))))) (q:=e_ asn (k:=on_ (qn_ (wi_ (k:=fun h2=>?_) (m:=fun h2=>?_))))))))))))
  ·have hc1:q<c.ps.length∧c.u / 16=q / 16:=by obtain⟨a1,a2⟩:=h2;exact⟨aa,aa⟩
   refine df cI (fun i=> [15].contains i) (fun k H=> (k=4→cQ H b [.int .i64 (gJ c.ps c.u), .int .i64 ((c.mv:Nat):Int),lpV lp, .int .i64 (((c.u:Nat):Int) - 1), .int .i64 blk,rd.val, .bool c.told])∧(k=9→cQ H b [.int .i64 (gJ c.ps c.u), .int .i64 ((c.mv:Nat):Int),lpV lp, .int .i64 (((c.u:Nat):Int) - 1), .int .i64 blk,rd.val, .bool c.told])) (af_ 0 (q:=cD fun H hH=>mv) (k:=af_ 1 (q:=cD fun H hH=>nck) (k:=af_ 2 (q:=cD fun H hH=>fla) (k:=af_ 3 (q:=cD fun H hH=>fla) (k:=?_)))))
   refine cE 4 rfl rfl (a8) rfl (cD fun H hH=>ak) (?_)
   refine af_ 5 (q:=cD fun H hH=>mv) (k:=af_ 6 (q:=cD fun H hH=>mv) (k:=af_ 7 (q:=cD fun H hH=>nck) (k:=af_ 8 (q:=cD fun H hH=>fla) (k:=?_))))
   refine cE 9 rfl rfl (a8) rfl (cD fun H hH=>aE) (?_)
   refine cE 10 rfl rfl (a8) rfl (cD fun H hH=>evq isb (congrArg (Value.int .i64) (show _=((q+1 - c.u:Nat):Int)from aa))) (?_)
   refine cE 11 rfl rfl (a8) rfl (cD fun H hH=>evq iad (congrArg (Value.int .i64) (show _=((c.mv+(q+1 - c.u):Nat):Int)from aa))) (?_)
   refine af_ 12 (q:=cD fun H hH=>nck) (k:=af_ 13 (q:=cD fun H hH=>fla) (k:=af_ 14 (q:=cD fun H hH=>fla) (k:=?_)))
   refine cN 15 rfl (a8) rfl (fun k hk=> ⟨fun hi=> ab,fun hi=> ab⟩) (dM rfl rfl rfl) ?_
   rintro _ _ ⟨rfl,rfl⟩
   refine db (a8) (fun k hk=> ⟨fun hi=> absurd hk (ad),fun hi=> absurd hk (ad)⟩) (gk (k:=jnE (c.mv+(q+1 - c.u)) (q:=?_)))
   rw[hmdef,if_pos hc1]
  have hc1:¬(q<c.ps.length∧c.u / 16=q / 16):=aQ
  refine gk (k:=wi_ (k:=fun h3=>?_) (m:=fun h3=>?_))
  ·refine wr_ (e_ mv (k:=e_ nck (k:=e_ fla (k:=e_ fla (k:=e_ ldv (k:=e_ mv (k:=?_)))))))
   refine e_ (gn rfl rfl q 16 rfl rfl (ag) (aq)) (k:=?_)
   refine e_ mv (k:=?_)
   refine e_ (gn rfl rfl c.u 16 rfl rfl (ag) (aq)) (k:=?_)
   refine e_ isb (k:=e_ mv (k:=?_))
   refine e_ (kG rfl rfl q 16 rfl rfl (ag)) (k:=?_)
   refine e_ iad (k:=e_ iad (k:=?_))
   refine e_ (evq iad (congrArg (Value.int .i64) (show _=((c.mv+(q / 16 - c.u / 16+q % 16+1):Nat):Int)from aa))) (k:=?_)
   refine gk (k:=jnE (c.mv+(q / 16 - c.u / 16+q % 16+1)) (q:=?_))
   rw[hmdef,if_neg hc1,if_pos (aa)]
  refine gk (k:=wi_ (k:=fun h4=>?_) (m:=fun h4=>?_))
  ·refine wr_ (e_ mv (k:=e_ nck (k:=e_ fla (k:=e_ fla (k:=e_ ldv (k:=?_))))))
   refine e_ (evq iad (congrArg (Value.int .i64) (show _=((c.mv+1:Nat):Int)from aa))) (k:=?_)
   refine gk (k:=jnE (c.mv+1) (q:=?_))
   rw[hmdef,if_neg hc1,if_neg (aa),if_pos (aa)]
  refine wr_ (e_ mv (k:=e_ nck (k:=e_ fla (k:=e_ fla (k:=e_ ldv (k:=e_ mv (k:=e_ iad (k:=?_))))))))
  refine e_ (evq isb (congrArg (Value.int .i64) (show _=((c.ps.length+15:Nat):Int)from aa))) (k:=?_)
  refine e_ (gn rfl rfl (c.ps.length+15) 16 rfl rfl (ag) (aq)) (k:=?_)
  refine e_ mv (k:=?_)
  refine e_ (gn rfl rfl c.u 16 rfl rfl (ag) (aq)) (k:=?_)
  refine e_ isb (k:=e_ iad (k:=?_))
  refine e_ (evq iad (congrArg (Value.int .i64) (show _=((c.mv+((c.ps.length+15) / 16 - c.u / 16+1):Nat):Int)from aa))) (k:=?_)
  refine gk (k:=jnE (c.mv+((c.ps.length+15) / 16 - c.u / 16+1)) (q:=?_))
  rw[hmdef,if_neg hc1,if_neg (aa),if_neg (aa)]
 rintro mm hmm
 try dsimp only[Yd,Ye]at*
 refine go ?_
 refine go ?_
 refine gk (k:=wi_ (k:=fun h5=>?_) (m:=fun h5=>?_))
 ·refine go ?_
  refine c2_ rfl (xK hn hbk hc.ok hc.small hc.tot (aa)) (k:=?_)
  rintro _ _ ⟨rd2,zs2,blk2,z,hbk2,hzq,hzs,rfl,rfl⟩
  have hdq:gJ c.ps (q+1)=((z.d:Nat):Int):=Km hzq
  refine e_ (gA (ft:=3) (off:=0) Tryz.underlying237 rfl rfl rfl) (k:=?_)
  refine go ?_
  refine gk (k:=rt_ Tryz.results159 (k:=?_))
  exact⟨CuH b (goC c q)::R,cJ.trans (H':=Vr b [.int .i64 (gJ c.ps (q+1)), .int .i64 ((c.mv+mvG c.ps.length c.u q:Nat):Int),lpV lp, .int .i64 (((q+1:Nat):Int) - 1), .int .i64 blk2,rd2.val, .bool false]::LPh lp im sk c.ps::Row rd2 ePo (zs2.map pgV)::Cl pgH zs2::R) (by rw[hdq,←hmm,show(((q+1:Nat):Int) - 1)=((q:Nat):Int)from aa];exact hsb) (m6 (c:=goC c q) (x:=⟨lp,im,sk,rd2,zs2,blk2⟩) ⟨hgo,hn,hbk2⟩),by rw[hdq];all_goals rfl,rfl⟩
 obtain rfl:q=c.ps.length:=aa
 have hdq:=zg c.ps
 refine gk (k:=rt_ Tryz.results159 (k:=?_))
 exact⟨CuH b (goC c c.ps.length)::R,cJ.trans (H':=Vr b [.int .i64 (gJ c.ps (c.ps.length+1)), .int .i64 ((c.mv+mvG c.ps.length c.u c.ps.length:Nat):Int),lpV lp, .int .i64 (((c.ps.length+1:Nat):Int) - 1), .int .i64 blk,rd.val, .bool false]::LPh lp im sk c.ps::Row rd ePo (zs.map pgV)::Cl pgH zs::R) (by rw[hdq,←hmm,show(((c.ps.length+1:Nat):Int) - 1)=((c.ps.length:Nat):Int)from aa];exact hsb) (m6 (c:=goC c c.ps.length) (x:=⟨lp,im,sk,rd,zs,blk⟩) ⟨hgo,hn,hbk⟩),by rw[hdq];all_goals rfl,rfl⟩
theorem O8 {G:cK}{H R:cG}{b:Nat}{c:CuS}{t:Int} [hg:Glb G R] [hr:Rem H CuH b c R] (hc0:iK c):SC G Tryz.prog 118 [.pointer (some ⟨b,0,none⟩), .int .i64 t] H (fun v H'=> v= .int .i64 (gJ (jE c t).ps (jE c t).u)∧H'=CuH b (jE c t)::R):=by
 refine sWk Tryz.func118 Tryz.ntmps118 ?_
 refine ws_ (wr_ (?_))
 refine wB b fun lp im sk rd zs blk hc hn hbk=> ?_
 have hpl:=hc.small.1
 have hat:=hc.at_
 refine go ?_
 refine cX cI (as_ 0 (q:=mv) (k:=as_ 1 (q:=nck) (k:=as_ 2 (q:=fla) (k:=as_ 3 (q:=fla) (k:=as_ 4 (q:=ldv) (k:=as_ 5 (q:=mv) (k:=as_ 6 (q:=ige) (k:=?_))))))))
 refine gq 7 rfl rfl (a8) rfl (dz (mv)) (fun h1=> ?_) (fun h1=> ?_)
 ·replace h1:=nrm h1
  have had:jE c t=c:=by
   unfold jE
   rw[if_pos (.inl (az))]
  refine ao_ 8 (k:=ao_ 9 (k:=ao_ 10 (k:=ao_ 11 (k:=ao_ 12 (k:=ao_ 13 (k:=ao_ 14 (k:=as_ 15 (q:=pkt) (k:=az_ (k:=gk (k:=ift (k:=go ?_)))))))))))
  refine gk (k:=rt_ Tryz.results118 (k:=?_))
  exact⟨CuH b (jE c t)::R,ck,by rw[had];all_goals rfl,rfl⟩
 replace h1:=nrm h1
 have hlt:¬t≤gJ c.ps c.u:=az
 refine at2 8 (q:=mv) (k:=at2 9 (q:=nck) (k:=at2 10 (q:=fla) (k:=at2 11 (q:=ldv) (k:=at2 12 (q:=mv) (k:=?_)))))
 refine ld 13 rfl rfl rfl rfl (a8) rfl (gQ (vs:= [_]) rfl (wg hn)) (?_)
 refine at2 14 (q:=ieq) (k:=as_ 15 (q:=pkf) (k:=az_ (k:=gk (k:=wi_ (k:=fun h2=>?_) (m:=fun h2=>?_)))))
 ·have had:jE c t=c:=by
   unfold jE
   rw[if_pos (.inr (aQ))]
  refine gk (k:=rt_ Tryz.results118 (k:=?_))
  exact⟨CuH b (jE c t)::R,ck,by rw[had];all_goals rfl,rfl⟩
 have hu:c.u≤c.ps.length:=aQ
 obtain⟨f1,f2,_⟩:=AU (t:=t) hu
 have had:jE c t=goC c (qf c.ps c.u t):=by
  unfold jE
  rw[if_neg]
  rintro(h9|h9) <;> omega
 refine go ?_
 refine du (H':=CuH b c::R) (cJ.trans (hsb) (m6 (c:=c) (x:=⟨lp,im,sk,rd,zs,blk⟩) ⟨hc,hn,hbk⟩)) ?_
 refine go ?_
 refine d2_ rfl (M6 hu) (k:=?_)
 refine d2_ rfl (O2 f1 f2) (k:=gk (k:=rt_ Tryz.results118 (k:=?_)))
 exact⟨_,hsb,by rw[had];all_goals rfl,by rw[had]⟩
theorem A1 {G:cK}{H R:cG}{b:Nat}{c:CuS} [hg:Glb G R] [hr:Rem H CuH b c R] (hc0:iK c):SC G Tryz.prog 133 [.pointer (some ⟨b,0,none⟩)] H (fun v H'=> ∃s:SV,v=s.val∧H'=Row s eI (cV (eV c))::CuH b (ln c)::R):=by
 refine sWk Tryz.func133 Tryz.ntmps133 ?_
 refine go ?_
 refine d1_ rfl (KV) (k:=gk (k:=wi_ (k:=fun h1=>?_) (m:=fun h1=>?_)))
 ·have hnil:eV c= []:=List.eq_nil_of_length_eq_zero (az)
  have hpc:ln c=c:=by unfold ln;rw[if_pos (.inr hnil)]
  refine gk (k:=rt_ Tryz.results133 (k:=?_))
  exact⟨Row SV.nil eI (cV (eV c))::CuH b (ln c)::R,by rw[hnil,hpc];exact cJ.nilRow (e:=eI) cJ.refl,SV.nil,rfl,rfl⟩
 have hne:eV c≠ []:=fun e=> by have h9:=h1;rw[e]at h9;exact h9 rfl
 obtain⟨u,hu2,p,hp⟩:∃u,c.u=u+1∧∃p,c.ps[u]? =some p:=by
  rcases hcu:c.u with _|u
  ·exact absurd (oh (.inl hcu)) hne
  ·cases hp:c.ps[u]? with
   |none=> exact absurd (oh (.inr (by rw[List.getElem?_eq_none_iff]at hp;omega))) hne
   |some p=> exact⟨u,rfl,p,hp⟩
 have hh:eV c=p.2:=tW hu2 hp
 have hul:=(Yk.1 hp).1
 have hpsm:=(hc0.small.2 p (Yj hp)).2.1
 have hpo:=hc0.pos
 have hhl:(eV c).length≤100000000:=by rw[hh];exact hpsm
 have hmv:=hc0.mvle
 refine go ?_
 refine wB b fun lp im sk rd zs blk hc hn hbk=> ?_
 refine gk (k:=wi_ (k:=fun h2=>?_) (m:=fun h2=>?_))
 ·have htd:c.told=false:=by have h9:=h2;simpa using h9
  have hpc:ln c=⟨c.ps,c.u,c.mv+(eV c).length,true⟩:=by unfold ln;rw[if_neg (by rintro(h9|h9);exact absurd h9 (by rw[htd];decide);exact hne h9)]
  refine go ?_
  refine df cI (fun i=> [6,11].contains i) (fun k H=> (k=4→∃(x1:Value) (x2:Value),cQ H b [.int .i64 (gJ c.ps c.u), .int .i64 ((c.mv:Nat):Int),lpV lp, .int .i64 (((c.u:Nat):Int) - 1),x1,x2, .bool c.told])) (af_ 0 (q:=cD fun H hH=>mv) (k:=af_ 1 (q:=cD fun H hH=>nck) (k:=af_ 2 (q:=cD fun H hH=>fla) (k:=af_ 3 (q:=cD fun H hH=>fla) (k:=?_)))))
  refine cE 4 rfl rfl (a8) rfl (cD fun H hH=>by have hN:=hH rfl;exact(by obtain⟨x1,x2,hN2⟩:=hN;exact ldv)) (?_)
  refine af_ 5 (q:=cD fun H hH=>mv) (k:=?_)
  refine cN 6 rfl (a8) rfl (fun k hk=> fun hi=> by subst hi;exact⟨_,_,inferInstance⟩) (cW (vs:= [_]) rfl (F3 (c:=c) hn hbk hc)) ?_
  rintro _ _ ⟨rfl,rd1,zs1,blk1,hbk1,rfl⟩
  refine cE 7 rfl rfl (a8) rfl (cD fun H hH=>evq iad (congrArg (Value.int .i64) (show _=((c.mv+(eV c).length:Nat):Int)from aa))) (?_)
  refine af_ 8 (q:=cD fun H hH=>nck) (k:=af_ 9 (q:=cD fun H hH=>fla) (k:=af_ 10 (q:=cD fun H hH=>fla) (k:=?_)))
  refine cN 11 rfl (a8) rfl (fun k hk=> fun hi=> by subst hi;exact⟨_,_,inferInstance⟩) (dM rfl rfl rfl) ?_
  rintro _ _ ⟨rfl,rfl⟩
  refine db (a8) (fun k hk=> fun hi=> absurd hk (ad)) (go ?_)
  refine s_ (iN eI rfl) (k:=?_)
  rintro _ _ ⟨s25,rfl,rfl⟩
  refine e_ mv (k:=e_ mv (k:=e_ nck (k:=e_ fla (k:=?_))))
  refine e_ (evq ldv (congrArg (Value.int .i64) (show(((c.u:Nat):Int) - 1)=((u:Nat):Int)from aa))) (k:=?_)
  refine c2_ rfl (xK hn (by first|exact hbk1|exact hbk) hc.ok hc.small hc.tot hul) (k:=?_)
  rintro _ _ ⟨rd2,zs2,blk2,z,hbk2,hzq,hzs,rfl,rfl⟩
  have hz0:=dO z.pos
  have hzp:z.pos=eV c:=by rw[hh];rw[hzq]at hp;cases hp;rfl
  have hzl:z.pos.length≤100000000:=by rw[hzp,hh];exact hpsm
  refine e_ (gA (ft:=28) (off:=1) Tryz.underlying237 rfl rfl rfl) (k:=?_)
  refine app (k:=fun s33=>?_)
  refine gk (k:=rt_ Tryz.results133 (k:=?_))
  have hpo2:=hpo
  rw[hpc]at hpo2
  (try rw[←hzp]at hpo2)
  exact⟨Row s33 eI (cV (eV c))::CuH b (ln c)::R,bM,s33,rfl,rfl⟩
 have htd:c.told=true:=aO
 have hpc:ln c=c:=by unfold ln;rw[if_pos (.inl htd)]
 refine go ?_
 refine s_ (iN eI rfl) (k:=?_)
 rintro _ _ ⟨s25,rfl,rfl⟩
 refine e_ mv (k:=e_ mv (k:=e_ nck (k:=e_ fla (k:=?_))))
 refine e_ (evq ldv (congrArg (Value.int .i64) (show(((c.u:Nat):Int) - 1)=((u:Nat):Int)from aa))) (k:=?_)
 refine c2_ rfl (xK hn (by first|exact hbk1|exact hbk) hc.ok hc.small hc.tot hul) (k:=?_)
 rintro _ _ ⟨rd2,zs2,blk2,z,hbk2,hzq,hzs,rfl,rfl⟩
 have hz0:=dO z.pos
 have hzp:z.pos=eV c:=by rw[hh];rw[hzq]at hp;cases hp;rfl
 have hzl:z.pos.length≤100000000:=by rw[hzp,hh];exact hpsm
 refine e_ (gA (ft:=28) (off:=1) Tryz.underlying237 rfl rfl rfl) (k:=?_)
 refine app (k:=fun s33=>?_)
 refine gk (k:=rt_ Tryz.results133 (k:=?_))
 have hpo2:=hpo
 rw[hpc]at hpo2
 (try rw[←hzp]at hpo2)
 exact⟨Row s33 eI (cV (eV c))::CuH b (ln c)::R,bM,s33,rfl,rfl⟩
end Go.Sx
