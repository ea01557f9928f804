import Derived.Test.YtefgpomabdplbaaGreatDoorQ42
import Derived.Laws.StructEq
set_option linter.unusedVariables false
set_option linter.unusedSimpArgs false
set_option linter.unusedSectionVars false
set_option linter.unnecessarySimpa false
set_option maxHeartbeats 0
namespace Go.Sx
open Go Go.Proofs
set_option maxRecDepth 100000
structure NrG where
 s1:SV
 s2:SV
 n:jT
def nrH (z:NrG):cG:= [Row z.s1 eI z.n.cs,Row z.s2 eI z.n.offs]
def nrV (z:NrG):NrV:=(z.s1,z.s2,z.n.slop)
theorem JA {l:List NrG}(z:NrG) {H:cG}:cJ (Row z.s1 eI z.n.cs::Row z.s2 eI z.n.offs::Cl nrH l::H) (Cl nrH (l++ [z])::H):=mX (f:=nrH) z
theorem JB {l:List NrG}(z:NrG) {u:SV}{H:cG}:cJ (Row z.s1 eI z.n.cs::Row z.s2 eI z.n.offs::Cl nrH l::Row u eNr (l.map nrV++ [nrV z])::H) (Cl nrH (l++ [z])::Row u eNr ((l++ [z]).map nrV)::H):=by
 rw[List.map_append];exact JA z
theorem BW {l:List NrG}{i:Nat}{z:NrG}{H:cG}(h:l[i]? =some z):cJ (Cl nrH l::H) (Row z.s1 eI z.n.cs::Row z.s2 eI z.n.offs::Cl nrH (l.take i)::Cl nrH (l.drop (i+1))::H):=mY (f:=nrH) h
theorem OB {H R:cG}{zs:List NrG}(hr:nd H (Cl nrH zs) R):zH H (zs.map nrV) (zs.map (·.n)):=
 ⟨an,fun i z n hz hn=> by
   rw[Xd]at hz hn
   cases hg:zs[i]? with
   |none=> rw[hg]at hz;cases hz
   |some g=>
    rw[hg]at hz hn
    cases hz;cases hn
    exact⟨dD (fm hr (BW hg)) (show Sl _ g.s1 eI g.n.cs from inferInstance),dD (fm hr (BW hg)) (show Sl _ g.s2 eI g.n.offs from inferInstance),rfl⟩⟩
instance gE.star {F H:cG}{a:PrA}{p:PrG} [h:gE F a p]:gE (fB F::H) a p:=h.less v8
theorem IK {G:cK}{H:cG}{a:PrA}{p:PrG} [hp:gE H a p] (hps:HS p) (hos:∀n∈p.nears,n.offs.length≤1000000000):SC G Tryz.prog 47 [.agg (prV a p.all).toArray] H (fun v H'=> ∃(a':PrA) (F:cG),gE F a' p∧v= .agg (prV a' p.all).toArray∧H'=fB F::H):=by
 have q1:=hps.a
 have q2:=hps.c
 have q3:=hps.n
 have q4:=hps.d
 have hnz:=hp.nr.1
 refine sWk Tryz.func47 Tryz.ntmps47 ?_
 refine gk (k:=bxx (k:=fun b1=>?_))
 refine alc (k:=fun b2=>?_)
 refine on_ (qn_ (ws_ (wr_ (e_ fla (k:=e_ ldv (k:=e_ (bld [(3,_)]) (k:=alc (k:=fun b3=>?_))))))))
 refine go ?_
 refine df cI (fun i=> [2,5,8,10,12,14].contains i) (fun k H=> (k=1→cQ H b1 (prV a p.all))∧(k=4→cQ H b1 (prV a p.all))∧(k=7→cQ H b1 (prV a p.all))) (af_ 0 (q:=cD fun H hH=>fla) (k:=?_))
 refine cE 1 rfl rfl (a8) rfl (cD fun H hH=>ak) (?_)
 refine af_ 3 (q:=cD fun H hH=>fla) (k:=?_)
 refine cE 4 rfl rfl (a8) rfl (cD fun H hH=>ar) (?_)
 refine af_ 6 (q:=cD fun H hH=>fla) (k:=?_)
 refine cE 7 rfl rfl (a8) rfl (cD fun H hH=>aZ) (?_)
 refine cN 2 rfl (a8) rfl (fun k hk=> ⟨fun hi=> ab,fun hi=> ab,fun hi=> ab⟩) (ig rfl rfl rfl rfl (aa) (aa)) ?_
 rintro _ _ ⟨s11,rfl,rfl⟩
 refine af_ 9 (q:=cD fun H hH=>fla) (k:=?_)
 refine cN 5 rfl (a8) rfl (fun k hk=> ⟨fun hi=> absurd hk (ad),fun hi=> ab,fun hi=> ab⟩) (ig rfl rfl rfl rfl (aa) (aa)) ?_
 rintro _ _ ⟨s14,rfl,rfl⟩
 refine cN 8 rfl (a8) rfl (fun k hk=> ⟨fun hi=> absurd hk (ad),fun hi=> absurd hk (ad),fun hi=> ab⟩) (ig rfl rfl rfl rfl (aa) (aa)) ?_
 rintro _ _ ⟨s17,rfl,rfl⟩
 refine cN 10 rfl (a8) rfl (fun k hk=> ⟨fun hi=> absurd hk (ad),fun hi=> absurd hk (ad),fun hi=> absurd hk (ad)⟩) (dM rfl rfl rfl) ?_
 rintro _ _ ⟨rfl,rfl⟩
 refine af_ 11 (q:=cD fun H hH=>fla) (k:=?_)
 refine cN 12 rfl (a8) rfl (fun k hk=> ⟨fun hi=> absurd hk (ad),fun hi=> absurd hk (ad),fun hi=> absurd hk (ad)⟩) (dM rfl rfl rfl) ?_
 rintro _ _ ⟨rfl,rfl⟩
 refine af_ 13 (q:=cD fun H hH=>fla) (k:=?_)
 refine cN 14 rfl (a8) rfl (fun k hk=> ⟨fun hi=> absurd hk (ad),fun hi=> absurd hk (ad),fun hi=> absurd hk (ad)⟩) (dM rfl rfl rfl) ?_
 rintro _ _ ⟨rfl,rfl⟩
 refine db (a8) (fun k hk=> ⟨fun hi=> absurd hk (ad),fun hi=> absurd hk (ad),fun hi=> absurd hk (ad)⟩) (qn_ (ws_ (ws_ (wr_ (?_)))))
 refine du (cJ.nilRow (e:=eNr) (fe (f:=nrH) cJ.refl)) ?_
 refine gk (k:=dt (Nat×SV×(List NrG)) (fun y=> y.1≤p.nears.length∧y.2.2.map (·.n)=p.nears.take y.1) (fun y=> [(24, .int .i64 ((y.1:Nat):Int))]) [(2,_),(3,_),(22,_),(23,_)] (fun y=> [Vr b3 [s11.val,s17.val,y.2.1.val, .bool p.all,s14.val, .slice none 0 0],Row y.2.1 eNr (y.2.2.map nrV),Cl nrH y.2.2]) _ (fun y=> p.nears.length - y.1) ((0,SV.nil, [])) (h0:=?_) (k:=?_))
 ·try dsimp only
  exact⟨Yl _,rfl⟩
 rintro⟨i,u,zs⟩ ⟨hi,hzs⟩
 try dsimp only[Yd,Ye]at*
 refine gk (k:=wi_ (k:=fun h1=>?_) (m:=fun h1=>?_))
 ·obtain⟨⟨z1,z2,z3⟩,n,hz,hn,hz1,hz2,hz3⟩:=hp.nr.get (i:=i) (aa)
  dsimp only at hz1 hz2 hz3
  subst hz3
  have hnm:=Yj hn
  have hns:=hps.ns n hnm
  have hno:=hos n hnm
  haveI:=hz1
  haveI:=hz2
  have hzl:(zs.map nrV).length≤1000000000:=bP
  refine wk_ (qn_ (ws_ (wb_ (ws_ (wr_ (e_ ixa (k:=e_ (jn (hy:=hz)) (k:=alc (k:=fun b5=>?_)))))))))
  refine go ?_
  refine df cI (fun i=> [4,7,11,12,14].contains i) (fun k H=> (k=1→cQ H b3 [s11.val,s17.val,u.val, .bool p.all,s14.val, .slice none 0 0])∧(k=3→cQ H b5 [z1.val,z2.val, .int .i64 n.slop])∧(k=6→cQ H b5 [z1.val,z2.val, .int .i64 n.slop])∧(k=9→cQ H b5 [z1.val,z2.val, .int .i64 n.slop])) (af_ 0 (q:=cD fun H hH=>fla) (k:=?_))
  refine cE 1 rfl rfl (a8) rfl (cD fun H hH=>ak) (?_)
  refine af_ 2 (q:=cD fun H hH=>fla) (k:=?_)
  refine cE 3 rfl rfl (a8) rfl (cD fun H hH=>ar) (?_)
  refine af_ 5 (q:=cD fun H hH=>fla) (k:=?_)
  refine cE 6 rfl rfl (a8) rfl (cD fun H hH=>aF) (?_)
  refine af_ 8 (q:=cD fun H hH=>fla) (k:=?_)
  refine cE 9 rfl rfl (a8) rfl (cD fun H hH=>by have hN:=hH.2.2.2 rfl;exact ldv) (?_)
  refine cN 4 rfl (a8) rfl (fun k hk=> ⟨fun hi=> ab,fun hi=> ab,fun hi=> ab,fun hi=> ab⟩) (ig rfl rfl rfl rfl (aa) (aa)) ?_
  rintro _ _ ⟨s32,rfl,rfl⟩
  refine cN 7 rfl (a8) rfl (fun k hk=> ⟨fun hi=> ab,fun hi=> absurd hk (ad),fun hi=> ab,fun hi=> ab⟩) (ig rfl rfl rfl rfl (aa) (aa)) ?_
  rintro _ _ ⟨s35,rfl,rfl⟩
  refine af_ 10 (q:=cD fun H hH=>bld [(0,_),(1,_),(2,_)]) (k:=?_)
  refine cN 11 rfl (a8) rfl (fun k hk=> ⟨fun hi=> ab,fun hi=> absurd hk (ad),fun hi=> absurd hk (ad),fun hi=> ab⟩) (ew eNr rfl rfl) ?_
  rintro _ _ ⟨s39,rfl,rfl⟩
  refine cN 12 rfl (a8) rfl (fun k hk=> ⟨fun hi=> ab,fun hi=> absurd hk (ad),fun hi=> absurd hk (ad),fun hi=> ab⟩) (eY rfl rfl rfl rfl (af) (af)) ?_
  rintro _ _ ⟨s40,rfl,rfl⟩
  refine af_ 13 (q:=cD fun H hH=>fla) (k:=?_)
  refine cN 14 rfl (a8) rfl (fun k hk=> ⟨fun hi=> absurd hk (ad),fun hi=> absurd hk (ad),fun hi=> absurd hk (ad),fun hi=> ab⟩) (dM rfl rfl rfl) ?_
  rintro _ _ ⟨rfl,rfl⟩
  refine db (a8) (fun k hk=> ⟨fun hi=> absurd hk (ad),fun hi=> absurd hk (ad),fun hi=> absurd hk (ad),fun hi=> absurd hk (ad)⟩) (bn_ (qn_ (wr_ (?_))))
  refine du (cJ.trans (H':=Row s32 eI n.cs::Row s35 eI n.offs::Cl nrH zs::Row s40 eNr (zs.map nrV++ [nrV ⟨s32,s35,n⟩])::Vr b3 [s11.val,s17.val,s40.val, .bool p.all,s14.val, .slice none 0 0]::Row s17 eLf p.curs::Row s14 eI p.drive::Row s11 eI p.avgs::Vr b2 [.slice none 0 0, .slice none 0 0, .slice none 0 0, .bool false, .slice none 0 0, .slice none 0 0]::Vr b1 (prV a p.all)::H) (hsb) (JB ⟨s32,s35,n⟩)) ?_
  refine go ?_
  refine ln_ ((i+1,s40,zs++ [(⟨s32,s35,n⟩:NrG)])) (k:=?_)
  try dsimp only
  exact⟨aa,by rw[List.map_append,hzs,cP hn];all_goals rfl⟩
 obtain rfl:i=p.nears.length:=aa
 rw[List.take_length]at hzs
 refine gk (k:=rt_ Tryz.results47 (k:=?_))
 refine⟨_,?_,⟨s11,s17,u,s14,SV.nil,zs.map nrV⟩, [Row s11 eI p.avgs,Row s17 eLf p.curs,Row u eNr (zs.map nrV),Row s14 eI p.drive,Cl nrH zs],⟨inferInstance,inferInstance,inferInstance,?_,inferInstance⟩,rfl,rfl⟩
 ·exact cJ.trans (H':=Row s11 eI p.avgs::Row s17 eLf p.curs::Row u eNr (zs.map nrV)::Row s14 eI p.drive::Cl nrH zs::H) (hsb) (cJ.star (F:= [Row s11 eI p.avgs,Row s17 eLf p.curs,Row u eNr (zs.map nrV),Row s14 eI p.drive,Cl nrH zs]) cJ.refl)
 ·have:=OB (zs:=zs) (H:= [Row s11 eI p.avgs,Row s17 eLf p.curs,Row u eNr (zs.map nrV),Row s14 eI p.drive,Cl nrH zs]) inferInstance
  rw[hzs]at this
  exact this
set_option synthInstance.maxHeartbeats 400000
set_option synthInstance.maxSize 4000
structure xj (p:PrG) (q:PtD) (T:Nat):Prop where
 sm:HS p
 seg:jF q.fs q.ds
 pt:Bj q
 tot:∀ps∈iQ p q,dg ps≤T
 near:∀n∈p.nears,n.cs.length*T≤1000000000000∧n.cs.length≤100000000
 cn:p.curs.length≤100000000
 os:∀n∈p.nears,n.offs.length≤1000000000
theorem FF {p:PrG}{q:PtD}(h:jF q.fs q.ds):∀ps∈iQ p q,fW 0 ps∧e8 ps∧dg ps≤100000000:=fun ps hps=> by
 obtain⟨c,_,rfl⟩:=List.mem_map.1 hps
 obtain⟨h1,h2,h3⟩:=lU (k:=c.1.toNat % 256::cF c.2) h.goodT
 have:=h.toks
 exact⟨h1,h2,Xi h3 (aa)⟩
theorem Fw {x:MX}{p:PrG}{q:PtD}{T:Nat}{ins:List Ins}(hk:xj p q T) (hn:nv p q= .ok ins) (ha:x.all=p.all) (hc:x.cs.length=p.curs.length):(∃tb,pz x p q (iQ p q) T ins tb)∧jO (cS p q ins) (iQ p q) (lh (iQ p q)):=by
 obtain⟨⟨tb,h1,h2⟩,h3,h4⟩:=JD hn
 obtain⟨t1,t2,t3,t4,t5⟩:=qG h2.tab
 have hl:(iQ p q).length=p.curs.length:=Yh ..
 obtain⟨d1,d2⟩:=x7 _ _ _ hk.sm.cb h4
 have d3:=Ct _ _ _ h4
 have hsk:=hk.sm.k
 have hcn:=hk.cn
 have hnn:=hk.sm.n
 refine⟨⟨tb,⟨⟨by rw[hc,hl],by rw[hl],fun c hc=> by have:=t3 c hc;rw[h3];omega,h3.symm,t2,by rw[hl];exact hcn,hk.pt,hk.tot,fun n hn=> ⟨t4 n hn,hk.near n hn⟩,hnn,fun z hz=> ⟨d3 z hz,d1 z hz⟩,aa⟩,h2,ha,hk.sm.d⟩⟩,?_⟩
 exact Fe (FF hk.seg)
abbrev cu0 (p:PrG) (q:PtD):List CuS:=(iQ p q).map fun ps=> ⟨ps,0,0,false⟩
theorem Kq {p:PrG}{q:PtD}{i:Nat}{fd:Nat}{ky:ByteArray}(h:p.curs[i]? =some (((fd:Nat):Int),ky)):(cu0 p q)[i]? =some ⟨qn q.fs q.ds fd ky,0,0,false⟩:=by
 rw[cu0,iQ,Xd,Xd,h];all_goals rfl
theorem E8 {bs:List Nat}{cs:List CuS}{b:Nat}{c:CuS}(h:bs.length=cs.length):(bs++ [b]).zip (cs++ [c])=bs.zip cs++ [(b,c)]:=by rw[List.zip_append h];all_goals rfl
theorem Kn {l:List (Nat×CuS)}(b:Nat) (c:CuS) {H:cG}:cJ (CuH b c::Cl cuZ l::H) (Cl cuZ (l++ [(b,c)])::H):=mX (f:=cuZ) (b,c)
theorem Kp {bs:List Nat}{cs:List CuS}{i b:Nat}{c:CuS}{u:SV}{H:cG}(hc:cs[i]? =some c) (hb:bs.length=i):cJ (CuH b c::Cl cuZ (bs.zip (cs.take i))::Row u ePt ((bs.map fun b=> (b,0))++ [(b,0)])::H) (Cl cuZ ((bs++ [b]).zip (cs.take (i+1)))::Row u ePt ((bs++ [b]).map fun b=> (b,0))::H):=by
 have:=(Yk.1 hc).1
 rw[cP hc,E8 (aA),List.map_append];exact Kn b c
theorem BB {G:cK}{H:cG}{a:PrA}{p:PrG}{pt:PtA}{q:PtD}{T:Nat} [hg:Glb G H] [hia:Isa H] [hp:gE H a p] [hpc:qA H a p] [hpt:dq H pt q] (hk:xj p q T):SC G Tryz.prog 22 [.agg (prV a p.all).toArray, .pointer (some ⟨pt.p,0,none⟩)] H (fun v H'=>
 (∃e:Nat,nv p q= .error e∧(e=20∨e=9)∧v= .tuple #[.pointer none,G.err e]∧H'=H)∨
 (∃(ins:List Ins) (m:Nat) (a':PrA) (sc u:SV) (bs:List Nat) (F:cG),nv p q= .ok ins∧bs.length=p.curs.length∧mb F ⟨a',p.all,sc,pt,u,bs⟩ p ins∧v= .tuple #[.pointer (some ⟨m,0,none⟩), .nilIface]∧H'=Ma m (⟨a',p.all,sc,pt,u,bs⟩,lh (iQ p q))::fB F::H)):=by
 have hps:=hk.sm
 have hcn:=hk.cn
 refine sWk Tryz.func22 Tryz.ntmps22 ?_
 refine gk (k:=bxx (k:=fun b2=>?_))
 refine go ?_
 refine c1_ rfl (Mf (a:=a) (p:=p) hps) (k:=?_)
 rintro _ _ ⟨(⟨hno,rfl⟩|⟨tb,n8,m8,htb,rfl⟩),rfl⟩
 ·have hN:nv p q= .error 20:=by rw[nv,hno]
  refine gk (k:=alc (k:=fun b6=>?_))
  refine sto (k:=e_ asn (k:=on_ (qn_ (ws_ (wr_ (e_ mv (k:=?_)))))))
  refine e_ (cZ rfl) (k:=?_)
  refine gk (k:=ift (k:=go ?_))
  refine cX cI (as_ 0 (q:=ldv) (k:=as_ 1 (q:=asn) (k:=as_ 2 (q:=asn) (k:=az_ (k:=gk (k:=rt_ Tryz.results22 (k:=?_)))))))
  exact⟨_,hsb, .inl ⟨20,hN, .inl rfl,rfl,rfl⟩⟩
 obtain⟨ins0,hgp⟩:=vX htb
 have hdc0:=hgp.dec
 refine gk (k:=alc (k:=fun b6=>?_))
 refine sto (k:=e_ asn (k:=on_ (qn_ (ws_ (wr_ (e_ mv (k:=?_)))))))
 refine e_ (cM rfl) (k:=?_)
 refine gk (k:=eg (k:=go ?_))
 refine df cI (fun i=> [4,6].contains i) (fun k H=> (k=3→cQ H pt.p [.pointer (some ⟨pt.g,0,none⟩), .pointer (some ⟨pt.d,0,none⟩)])∧(k=8→cQ H b2 (prV a p.all))∧(k=9→Sl H a.av eI p.avgs)) (af_ 0 (q:=cD fun H hH=>mv) (k:=af_ 1 (q:=cD fun H hH=>nck) (k:=af_ 2 (q:=cD fun H hH=>fla) (k:=?_))))
 refine cE 3 rfl rfl (a8) rfl (cD fun H hH=>ak) (?_)
 refine af_ 7 (q:=cD fun H hH=>fla) (k:=?_)
 refine cE 8 rfl rfl (a8) rfl (cD fun H hH=>ar) (?_)
 refine cE 9 rfl rfl (a8) rfl (cD fun H hH=>by have hN:=hH.2.2 rfl;exact lnn) (?_)
 refine cN 4 rfl (a8) rfl (fun k hk=> ⟨fun hi=> ab,fun hi=> ab,fun hi=> ab⟩) (cW (vs:= [_]) rfl (ES (a:=pt) hk.pt)) ?_
 rintro _ _ ⟨s23,rfl,rfl⟩
 refine cE 5 rfl rfl (a8) rfl (cD fun H hH=>gA (ft:=22) (off:=0) Tryz.underlying24 rfl rfl rfl) (?_)
 refine cN 6 rfl (a8) rfl (fun k hk=> ⟨fun hi=> absurd hk (ad),fun hi=> ab,fun hi=> ab⟩) (Ev.st lnn) ?_
 rintro _ _ ⟨rfl,rfl⟩
 refine af_ 10 (q:=cD fun H hH=>ine) (k:=db (a8) (fun k hk=> ⟨fun hi=> absurd hk (ad),fun hi=> ab,fun hi=> ab⟩) (gk (k:=wi_ (k:=fun h1=>?_) (m:=fun h1=>?_))))
 ·have hN:nv p q= .error 9:=by rw[nv,htb];simp only;rw[if_neg (az)]
  refine go ?_
  refine cX cI (as_ 0 (q:=ldv) (k:=as_ 1 (q:=asn) (k:=as_ 2 (q:=asn) (k:=az_ (k:=gk (k:=rt_ Tryz.results22 (k:=?_)))))))
  exact⟨_,hsb, .inl ⟨9,hN, .inr rfl,rfl,rfl⟩⟩
 have hN:nv p q= .ok ins0:=by rw[nv,htb,hdc0];simp only;rw[if_pos (az)]
 obtain⟨t1,t2,t3,t4,t5⟩:=qG hgp.tab
 have hfa:q.fs.length=p.avgs.length:=az
 refine go ?_
 refine c1_ rfl (IK (a:=a) (p:=p) hps hk.os) (k:=?_)
 rintro _ _ ⟨a',F1,hF1,rfl,rfl⟩
 haveI:=hF1
 refine go ?_
 refine d0_ rfl (xH) (k:=e_ (bld [(0,_),(2,_),(4,_),(6,_)]) (k:=bxx (k:=fun b36=>?_)))
 refine go ?_
 refine c1_ rfl (BF (xs:=p.code) hps.k hps.cb) (k:=?_)
 rintro _ _ (⟨hdn,rfl,rfl⟩|⟨sc,code,hdc,rfl,rfl⟩)
 ·rw[lr,hdn]at hdc0;cases hdc0
 obtain rfl:code=ins0:=by rw[lr,hdc]at hdc0;exact Option.some.inj hdc0
 refine e_ mv (k:=e_ exr (k:=e_ exr (k:=e_ nck (k:=e_ fla (k:=sto (k:=on_ (qn_ (ws_ (ws_ (wr_ (?_)))))))))))
 refine du (cJ.nilRow (e:=ePt) (fe (f:=cuZ) cJ.refl)) ?_
 refine gk (k:=dt (Nat×SV×(List Nat)) (fun y=> y.1≤p.curs.length∧y.2.2.length=y.1) (fun y=> [(52, .int .i64 ((y.1:Nat):Int))]) [(1,_),(8,_),(50,_),(51,_)] (fun y=> [Vr b36 (mV ⟨a',p.all,sc,pt,y.2.1,y.2.2⟩ SV.nil ⟨[], -1,0,0,0⟩),Row y.2.1 ePt (y.2.2.map fun b=> (b,0)),Cl cuZ (y.2.2.zip ((cu0 p q).take y.1))]) _ (fun y=> p.curs.length - y.1) ((0,SV.nil, [])) (h0:=?_) (k:=?_))
 ·try dsimp only
  exact⟨Yl _,rfl⟩
 rintro⟨i,u,bs⟩ ⟨hi,hbs⟩
 try dsimp only[Yd,Ye]at*
 refine gk (k:=wi_ (k:=fun h2=>?_) (m:=fun h2=>?_))
 ·obtain⟨⟨fd0,ky⟩,hfk⟩:∃z,p.curs[i]? =some z:=⟨_,Yi (aa)⟩
  obtain⟨hf1,hf2,hf3⟩:=t3 _ (Yj hfk)
  simp only at hf1 hf2 hf3
  obtain⟨fd,rfl⟩:∃n:Nat,fd0=((n:Nat):Int):=⟨fd0.toNat,aa⟩
  have hc0:=Kq (q:=q) hfk
  have hbl:(bs.map fun b=> ((b,0):Nat×Nat)).length=i:=by rw[Yh,hbs]
  refine wk_ (qn_ (ws_ (wb_ (ws_ (wr_ (e_ ixa (k:=e_ (jn (hy:=hfk)) (k:=alc (k:=fun b10=>?_)))))))))
  refine go ?_
  refine df cI (fun i=> [13,14,15,18].contains i) (fun k H=> (k=4→cQ H b36 (mV ⟨a',p.all,sc,pt,u,bs⟩ SV.nil ⟨[], -1,0,0,0⟩))∧(k=8→cQ H pt.p [.pointer (some ⟨pt.g,0,none⟩), .pointer (some ⟨pt.d,0,none⟩)])∧(k=10→cQ H b10 [.int .i64 ((fd:Nat):Int), .string ky])∧(k=12→cQ H b10 [.int .i64 ((fd:Nat):Int), .string ky])) (af_ 0 (q:=cD fun H hH=>mv) (k:=af_ 1 (q:=cD fun H hH=>mv) (k:=af_ 2 (q:=cD fun H hH=>nck) (k:=af_ 3 (q:=cD fun H hH=>fla) (k:=?_)))))
  refine cE 4 rfl rfl (a8) rfl (cD fun H hH=>ak) (?_)
  refine af_ 5 (q:=cD fun H hH=>mv) (k:=af_ 6 (q:=cD fun H hH=>nck) (k:=af_ 7 (q:=cD fun H hH=>fla) (k:=?_)))
  refine cE 8 rfl rfl (a8) rfl (cD fun H hH=>ar) (?_)
  refine af_ 9 (q:=cD fun H hH=>fla) (k:=?_)
  refine cE 10 rfl rfl (a8) rfl (cD fun H hH=>aF) (?_)
  refine af_ 11 (q:=cD fun H hH=>fla) (k:=?_)
  refine cE 12 rfl rfl (a8) rfl (cD fun H hH=>by have hN:=hH.2.2.2 rfl;exact ldv) (?_)
  refine cN 13 rfl (a8) rfl (fun k hk=> ⟨fun hi=> ab,fun hi=> ab,fun hi=> ab,fun hi=> ab⟩) (cW (vs:= [_,_,_]) rfl (II (a:=pt) hk.seg (aa) (aa))) ?_
  rintro _ _ ⟨b69,rfl,rfl⟩
  refine cN 14 rfl (a8) rfl (fun k hk=> ⟨fun hi=> ab,fun hi=> absurd hk (ad),fun hi=> absurd hk (ad),fun hi=> absurd hk (ad)⟩) (ew ePt rfl rfl) ?_
  rintro _ _ ⟨s70,rfl,rfl⟩
  refine cN 15 rfl (a8) rfl (fun k hk=> ⟨fun hi=> ab,fun hi=> absurd hk (ad),fun hi=> absurd hk (ad),fun hi=> absurd hk (ad)⟩) (eY rfl rfl rfl rfl (af) (af)) ?_
  rintro _ _ ⟨s71,rfl,rfl⟩
  refine af_ 16 (q:=cD fun H hH=>nck) (k:=af_ 17 (q:=cD fun H hH=>fla) (k:=?_))
  refine cN 18 rfl (a8) rfl (fun k hk=> ⟨fun hi=> absurd hk (ad),fun hi=> absurd hk (ad),fun hi=> absurd hk (ad),fun hi=> absurd hk (ad)⟩) (dM rfl rfl rfl) ?_
  rintro _ _ ⟨rfl,rfl⟩
  refine db (a8) (fun k hk=> ⟨fun hi=> absurd hk (ad),fun hi=> absurd hk (ad),fun hi=> absurd hk (ad),fun hi=> absurd hk (ad)⟩) (bn_ (qn_ (wr_ (?_))))
  refine du (cJ.trans (H':=CuH b69 ⟨qn q.fs q.ds fd ky,0,0,false⟩::Cl cuZ (bs.zip ((cu0 p q).take i))::Row s71 ePt ((bs.map fun b=> (b,0))++ [(b69,0)])::Vr b36 (mV ⟨a',p.all,sc,pt,s71,bs++ [b69]⟩ SV.nil ⟨[], -1,0,0,0⟩)::Row sc oE code::fB F1::Row s23 eF q.fs::Vr b6 [.int .i64 n8, .int .i64 m8]::Vr b2 (prV a p.all)::H) (hsb) (Kp hc0 hbs)) ?_
  refine go ?_
  refine ln_ ((i+1,s71,bs++ [b69])) (k:=?_)
  try dsimp only
  exact⟨aa,by rw[Ya,hbs];all_goals rfl⟩
 obtain rfl:i=p.curs.length:=aa
 refine gk (k:=rt_ Tryz.results22 (k:=?_))
 have ht:(cu0 p q).take p.curs.length=cu0 p q:=List.take_of_length_le (by rw[cu0,iQ,Yh,Yh];exact Nat.le_refl _)
 refine⟨_,?_, .inr ⟨code,b36,a',sc,u,bs, [Row u ePt (bs.map fun b=> (b,0)),Row sc oE code,fB F1],hN,hbs,⟨inferInstance,inferInstance,inferInstance⟩,rfl,rfl⟩⟩
 exact(cJ.nilRow (e:=eVV) cJ.refl).trans (cJ.trans (H':=Vr b36 (mV ⟨a',p.all,sc,pt,u,bs⟩ SV.nil ⟨[], -1,0,0,0⟩)::Row SV.nil eVV []::Cl cuZ (bs.zip (cu0 p q))::Row u ePt (bs.map fun b=> (b,0))::Row sc oE code::fB F1::H) (by rw[ht];exact hsb) ((jB (x:=⟨a',p.all,sc,pt,u,bs⟩) (y:=⟨[], -1,0,0,0⟩)).trans ((yA (x:=⟨a',p.all,sc,pt,u,bs⟩) (y:=⟨[], -1,0,0,0⟩) (cs:=cu0 p q)).trans (cJ.keep (cJ.star (F:= [Row u ePt (bs.map fun b=> (b,0)),Row sc oE code,fB F1]) cJ.refl)))))
abbrev Mt:Value:= .agg [.slice none 0 0, .int .i64 0, .int .i64 0, .int .i64 0].toArray
abbrev Ol (sh:SV) (s:MS):Value:= .agg [sh.val, .int .i64 ((s.steps:Nat):Int), .int .i64 ((kX s:Nat):Int), .int .i64 ((s.visits:Nat):Int)].toArray
abbrev dK (p:PrG) (q:PtD) (ins:List Ins):List Hit×MS:=Fx (cS p q ins) (lh (iQ p q))
section
variable {G:cK}{H R:cG}{m T:Nat}{x:MX}{s:MS}{p:PrG}{q:PtD}{ins:List Ins}{pss:List (List Po)}{tb:Hs}
theorem LP [hr:Rem H Ma m (x,s) R] [hg:Glb G R] [hpt:dq R x.pt q] [hmf:mb R x p ins] (hS:jS) (hC:fg) (hro:pz x p q pss T ins tb) (hms:jO (cS p q ins) pss s):SC G Tryz.prog 28 [.pointer (some ⟨m,0,none⟩)] H (fun v H'=> ((∃h:Hit,(dV (cS p q ins) s).1=some h∧v= .tuple #[.agg [.int .i64 h.1, .int .u64 ((h.2:Nat):Int)].toArray, .bool true])∨((dV (cS p q ins) s).1=none∧v= .tuple #[.agg [.int .i64 0, .int .u64 0].toArray, .bool false]))∧H'=Ma m (x,(dV (cS p q ins) s).2)::R):=
 (A2 hS hC hro hms).mono fun v H' h=> ⟨by
   rw[h.1]
   cases(dV (cS p q ins) s).1 with
   |none=> exact .inr ⟨rfl,rfl⟩
   |some z=> exact .inl ⟨z,rfl,rfl⟩,h.2⟩
end
theorem Iw {G:cK}{H:cG}{a:PrA}{p:PrG}{pt:PtA}{q:PtD}{T:Nat}{fu:Int} [hg:Glb G H] [hia:Isa H] [hp:gE H a p] [hpc:qA H a p] [hpt:dq H pt q] (hS:jS) (hC:fg) (hk:xj p q T):SC G Tryz.prog 9 [.agg (prV a p.all).toArray, .pointer (some ⟨pt.p,0,none⟩), .int .i64 fu] H (fun v H'=>
 (∃e:Nat,nv p q= .error e∧(e=20∨e=9)∧v= .tuple #[Mt,G.err e]∧H'=H)∨
 (∃ins:List Ins,nv p q= .ok ins∧((fu.toNat<(dK p q ins).2.steps∧v= .tuple #[Mt,G.err 21]∧H'=H)∨((dK p q ins).2.steps≤fu.toNat∧∃sh:SV,v= .tuple #[Ol sh (dK p q ins).2, .nilIface]∧H'=Row sh rb (dK p q ins).1::H)))):=by
 refine sWk Tryz.func9 Tryz.ntmps9 ?_
 refine gk (k:=bxx (k:=fun b3=>?_))
 refine alc (k:=fun b6=>?_)
 refine go ?_
 refine c2_ rfl (BB (a:=a) (pt:=pt) hk) (k:=?_)
 rintro _ _ (⟨e,hne,he,rfl,rfl⟩|⟨ins,m,a',sc,u,bs,F,hnw,hbl,hmf,rfl,rfl⟩)
 ·refine e_ mv (k:=e_ exr (k:=e_ exr (k:=e_ asn (k:=e_ asn (k:=on_ (qn_ (ws_ (ws_ (wr_ (e_ mv (k:=?_)))))))))))
  refine e_ (cZ rfl) (k:=?_)
  refine gk (k:=ift (k:=ws_ (wr_ (e_ (bld []) (k:=gk (k:=rt_ Tryz.results9 (k:=?_)))))))
  exact⟨_,hsb, .inl ⟨e,hne,he,rfl,rfl⟩⟩
 haveI:=hmf
 obtain⟨⟨tb,hro⟩,hms0⟩:=Fw (x:=⟨a',p.all,sc,pt,u,bs⟩) hk hnw rfl hbl
 obtain⟨R0,hR0⟩:∃R0,R0=dK p q ins:=⟨_,rfl⟩
 refine e_ mv (k:=e_ exr (k:=e_ exr (k:=e_ asn (k:=e_ asn (k:=on_ (qn_ (ws_ (ws_ (wr_ (e_ mv (k:=?_)))))))))))
 refine e_ (cM rfl) (k:=?_)
 refine gk (k:=eg (k:=go ?_))
 refine du (cJ.nilRow (e:=rb) cJ.refl) ?_
 refine e_ (bld []) (k:=alc (k:=fun b10=>?_))
 refine gk (k:=dt (MS×Nat×(List Hit)×SV×Int×Int×Int) (fun y=> uE (cS p q ins) y.2.1 y.1∧jO (cS p q ins) (iQ p q) y.1∧R0=(y.2.2.1++(kS (cS p q ins) y.2.1 y.1).1,(kS (cS p q ins) y.2.1 y.1).2)∧((y.2.2.1.length:Nat):Int)≤y.1.pl+1) (fun y=> []) [(2,_),(6,_),(8,_),(10,_)] (fun y=> [Ma m (⟨a',p.all,sc,pt,u,bs⟩,y.1),Row y.2.2.2.1 rb y.2.2.1,Vr b10 [y.2.2.2.1.val, .int .i64 y.2.2.2.2.1, .int .i64 y.2.2.2.2.2.1, .int .i64 y.2.2.2.2.2.2]]) _ (fun y=> y.2.1) ((lh (iQ p q),(cS p q ins).ids.length+1, [],SV.nil,0,0,0)) (h0:=?_) (k:=?_))
 ·try dsimp only
  exact⟨pA hms0.lo,hms0,hR0,by show(0:Int)≤ -1+1;decide⟩
 rintro⟨sa,f,out,sh,k1,k2,k3⟩ ⟨hlf,hsa,hrun,hol⟩
 try dsimp only[Yd,Ye]at*
 obtain⟨f9,rfl⟩:∃g,f=g+1:=⟨f - 1,by have:=hlf.one;omega⟩
 obtain⟨hsB,hsm⟩:=tJ hro.dr hro.few hsa
 have hhi:=hsa.hi
 obtain⟨h6,h7⟩:=tL hro hsB
 refine go ?_
 refine c1_ rfl (LP hS hC hro hsa) (k:=?_)
 rintro _ _ ⟨(⟨hh,hnx,rfl⟩|⟨hnx,rfl⟩),rfl⟩
 ·rw[HH hnx]at hrun
  have hst:=(xf hro.dr hro.few f9 _ hsB).2
  have hle:(dV (cS p q ins) sa).2.steps≤R0.2.steps:=by rw[hrun];exact hst
  have hlf2:=hlf.next hro.dr hro.few hsa hnx
  have hpl:=(qd hro.dr hro.few ((cS p q ins).ids.length+1) sa hsa).2.2.2 (by intro h9;rw[show(qU (cS p q ins) ((cS p q ins).ids.length+1) sa).1=(dV (cS p q ins) sa).1 from rfl,hnx]at h9;cases h9)
  have hpl2:sa.pl<(dV (cS p q ins) sa).2.pl:=hpl.1
  refine gk (k:=alc (k:=fun b11=>?_))
  refine go ?_
  refine d1_ rfl (pI hro hsB) (k:=e_ mv (k:=e_ exr (k:=e_ exr (k:=e_ exr (k:=e_ fla (k:=sto (k:=e_ fla (k:=sto (k:=e_ fla (k:=sto (k:=on_ (qn_ (ws_ (?_))))))))))))))
  refine ws_ (wr_ (e_ fla (k:=e_ ldv (k:=e_ mv (k:=?_)))))
  refine e_ (mO rfl rfl) (k:=?_)
  refine gk (k:=wi_ (k:=fun h1=>?_) (m:=fun h1=>?_))
  ·have hlt:fu.toNat<R0.2.steps:=by have h9:=h1;omega
   rw[hR0]at hlt
   refine go ?_
   refine df cI (fun i=> [2].contains i) (fun k H=> (k=1→cQ H 0 [G.err 21])) (af_ 0 (q:=cD fun H hH=>bld []) (k:=?_))
   refine cE 1 rfl rfl (a8) rfl (cD fun H hH=>bA) (?_)
   refine cN 2 rfl (a8) rfl (fun k hk=> fun hi=> ab) (dM rfl rfl rfl) ?_
   rintro _ _ ⟨rfl,rfl⟩
   refine af_ 3 (q:=cD fun H hH=>asn) (k:=db (a8) (fun k hk=> fun hi=> ab) (gk (k:=rt_ Tryz.results9 (k:=?_))))
   exact⟨_,hsb, .inr ⟨ins,hnw, .inl ⟨hlt,rfl,rfl⟩⟩⟩
  have hge:(dV (cS p q ins) sa).2.steps≤fu.toNat:=az
  refine gk (k:=eg (k:=go ?_))
  refine gk (k:=gz rb (k:=fun s51=>?_))
  refine app (k:=fun s52=>?_)
  refine go ?_
  refine ln_ (((dV (cS p q ins) sa).2,f9,out++ [hh],s52,(((dV (cS p q ins) sa).2.steps:Nat):Int),((kX (dV (cS p q ins) sa).2:Nat):Int),(((dV (cS p q ins) sa).2.visits:Nat):Int))) (k:=?_)
  try dsimp only
  exact⟨hlf2,hsB,by rw[hrun,Yf];all_goals rfl,by rw[Ya];show((out.length+1:Nat):Int)≤_;omega⟩
 rw[HI hnx]at hrun
 have hle:(dV (cS p q ins) sa).2.steps≤R0.2.steps:=by rw[hrun];exact Nat.le_refl _
 refine gk (k:=alc (k:=fun b11=>?_))
 refine go ?_
 refine d1_ rfl (pI hro hsB) (k:=e_ mv (k:=e_ exr (k:=e_ exr (k:=e_ exr (k:=e_ fla (k:=sto (k:=e_ fla (k:=sto (k:=e_ fla (k:=sto (k:=on_ (qn_ (ws_ (?_))))))))))))))
 refine ws_ (wr_ (e_ fla (k:=e_ ldv (k:=e_ mv (k:=?_)))))
 refine e_ (mO rfl rfl) (k:=?_)
 refine gk (k:=wi_ (k:=fun h2=>?_) (m:=fun h2=>?_))
 ·have hlt:fu.toNat<R0.2.steps:=by have h9:=h2;omega
  rw[hR0]at hlt
  refine go ?_
  refine df cI (fun i=> [2].contains i) (fun k H=> (k=1→cQ H 0 [G.err 21])) (af_ 0 (q:=cD fun H hH=>bld []) (k:=?_))
  refine cE 1 rfl rfl (a8) rfl (cD fun H hH=>bA) (?_)
  refine cN 2 rfl (a8) rfl (fun k hk=> fun hi=> ab) (dM rfl rfl rfl) ?_
  rintro _ _ ⟨rfl,rfl⟩
  refine af_ 3 (q:=cD fun H hH=>asn) (k:=db (a8) (fun k hk=> fun hi=> ab) (gk (k:=rt_ Tryz.results9 (k:=?_))))
  exact⟨_,hsb, .inr ⟨ins,hnw, .inl ⟨hlt,rfl,rfl⟩⟩⟩
 have hge:(dV (cS p q ins) sa).2.steps≤fu.toNat:=aQ
 refine gk (k:=ift (k:=go ?_))
 refine gk (k:=rt_ Tryz.results9 (k:=?_))
 refine⟨_,?_, .inr ⟨ins,hnw, .inr ⟨?_,sh,?_,rfl⟩⟩⟩
 ·rw[←hR0,hrun,Ym];exact hsb
 ·rw[←hR0,hrun];exact hge
 ·rw[←hR0,hrun];all_goals rfl
theorem Dn:(Tryz.prog.fieldsOf 56).toList= [{name:= "Id",type:=3,offset:=0,embedded:=false,tag:= "",pkgPath:= "",byteOffset:=0},
 {name:= "Score",type:=54,offset:=1,embedded:=false,tag:= "",pkgPath:= "",byteOffset:=8}]:=by
 rw[Program.fieldsOf,Tryz.underlying56]
theorem Nj:Tryz.prog.underlying 56=some (.struct (Tryz.prog.fieldsOf 56)):=by
 rw[Program.fieldsOf,Tryz.underlying56]
theorem JP:Tryz.prog.stoodInHeld 56=false:=a8
theorem yI:Tryz.prog.eqGuardType Tryz.prog.depth 56=false:=a8
theorem yH {P:Program}{T:TypeId} [One P T] {xs:Array Value}{o:Nat}{v:Value}(h:xs[o]? =some v) (w:World):(part T xs o).run P w= .ok v w:=by
 simp only[part,Sem.run_bind,fT,Result.andThen_ok,Bool.false_eq_true,↓reduceIte,h,Sem.run_pure]
theorem tu (a b:Hit) (w:World):(Op.equalIn 10000 56 (.agg [.int .i64 a.1, .int .u64 ((a.2:Nat):Int)].toArray) (.agg [.int .i64 b.1, .int .u64 ((b.2:Nat):Int)].toArray)).run Tryz.prog w= .ok (decide (a=b)) w:=by
 rw[run_equalIn_struct w 9999 56 _ _ Nj JP,Dn]
 have n1:("Id" :String)≠ "_" :=ag
 have n2:("Score" :String)≠ "_" :=ag
 have q0:∀(x0 x1:Value) (w:World),(part 3 [x0,x1].toArray 0).run Tryz.prog w= .ok x0 w:=fun _ _ w=> yH rfl w
 have q1:∀(x0 x1:Value) (w:World),(part 54 [x0,x1].toArray 1).run Tryz.prog w= .ok x1 w:=fun _ _ w=> yH rfl w
 have e1:=fun w=> run_equalIn_int (P:=Tryz.prog) w 9998 3 .i64 .i64 a.1 b.1 Tryz.underlying3
 have e2:=fun w=> run_equalIn_int (P:=Tryz.prog) w 9998 54 .u64 .u64 ((a.2:Nat):Int) ((b.2:Nat):Int) Tryz.underlying54
 simp only[Op.eqFields,n1,n2,ne_eq,not_false_eq_true,↓reduceIte,Sem.run_bind,q0,Result.andThen_ok,e1]
 obtain⟨ia,sa⟩:=a
 obtain⟨ib,sb⟩:=b
 simp only[Prod.mk.injEq]
 by_cases h1:ia=ib
 ·subst h1
  simp only[beq_self_eq_true,Bool.not_true,Bool.false_eq_true,↓reduceIte,Sem.run_bind,q1,Result.andThen_ok,e2,true_and]
  by_cases h2:sa=sb
  ·subst h2
   simp only[beq_self_eq_true,Bool.not_true,Bool.false_eq_true,↓reduceIte,Sem.run_pure,decide_true]
  ·have h6:(((sa:Nat):Int)==((sb:Nat):Int))=false:=beq_false_of_ne (aa)
   simp only[h6,Bool.not_false,↓reduceIte,Sem.run_pure,Yr h2]
 ·have h6:(ia==ib)=false:=by simpa using h1
  simp only[h6,Bool.not_false,↓reduceIte,Sem.run_pure]
  rw[Yr (fun h=> h1 h.1)]
section
variable {G:cK}{t:Tm}{H:cG}{dst:Option Tmp}{ty:TypeId}{pos:String}{after:Array Edge}{g:Option (Nat×Bool)}
theorem ph {U:TypeId}{x y:Operand}(a b:Hit) (hx:evo t x=some (.agg [.int .i64 a.1, .int .u64 ((a.2:Nat):Int)].toArray)) (hy:evo t y=some (.agg [.int .i64 b.1, .int .u64 ((b.2:Nat):Int)].toArray)):
 Ev G Tryz.prog ⟨dst, .binOp .neq 56 x y U,ty,pos,after,g⟩ t H (.bool (!decide (a=b))):=
 fun ρ hρ w _=> by
  simp only[execOp,hρ _ _ hx,hρ _ _ hy,Sem.run_bind,run_eqGuard_agg w .neq 56 x y _ _ yI,Result.andThen_ok,run_neq_struct,tu,Sem.run_pure]
end
theorem LI {G:cK}{H:cG}{s s2:SV}{xs ys:List Hit} [Sl H s rb xs] [Sl H s2 rb ys] (hn:xs.length≤1000000000000):SC G Tryz.prog 20 [s.val,s2.val] H (fun v H'=> v= .bool (decide (xs=ys))∧H'=H):=by
 refine sWk Tryz.func20 Tryz.ntmps20 ?_
 refine go ?_
 refine gk (k:=wi_ (k:=fun h1=>?_) (m:=fun h1=>?_))
 ·have hne:¬xs=ys:=by rintro rfl;have h9:=h1;omega
  refine gk (k:=rt_ Tryz.results20 (k:=?_))
  exact⟨_,hsb,by rw[Yr hne];all_goals rfl,rfl⟩
 have hl:xs.length=ys.length:=az
 refine gk (k:=dt (Nat) (fun y=> y≤xs.length∧∀j,j<y→xs[j]? =ys[j]?) (fun y=> [(13, .int .i64 ((y:Nat):Int))]) [(0,_),(1,_),(12,_)] (fun y=> []) _ (fun y=> xs.length - y) (0) (h0:=?_) (k:=?_))
 ·try dsimp only
  exact⟨Yl _,fun j h=> absurd h (Nat.not_lt_zero _)⟩
 rintro i ⟨hi,hall⟩
 try dsimp only[Yd,Ye]at*
 refine gk (k:=wi_ (k:=fun h2=>?_) (m:=fun h2=>?_))
 ·obtain⟨x,hx⟩:∃x,xs[i]? =some x:=⟨_,Yi (aa)⟩
  obtain⟨y9,hy⟩:∃x,ys[i]? =some x:=⟨_,Yi (aa)⟩
  refine go ?_
  refine cX cI (as_ 0 (q:=mv) (k:=as_ 1 (q:=mv) (k:=as_ 2 (q:=ixa) (k:=as_ 3 (q:=jn (hy:=hx)) (k:=as_ 4 (q:=mv) (k:=as_ 5 (q:=mv) (k:=as_ 6 (q:=ixa) (k:=as_ 7 (q:=jn (hy:=hy)) (k:=?_)))))))))
  refine cE 8 rfl rfl (a8) rfl (dz (ph x y9 rfl rfl)) (?_)
  refine az_ (k:=gk (k:=wi_ (k:=fun h3=>?_) (m:=fun h3=>?_)))
  ·have hne:¬xs=ys:=by rintro rfl;rw[hx]at hy;cases hy;have h9:=h3;simp at h9
   refine gk (k:=rt_ Tryz.results20 (k:=?_))
   exact⟨_,hsb,by rw[Yr hne];all_goals rfl,rfl⟩
  have heq:x=y9:=by have h9:=h3;simpa using h9
  refine go ?_
  refine ln_ (i+1) (k:=?_)
  try dsimp only
  refine⟨aa,fun j hj=> ?_⟩
  rcases Nat.lt_or_eq_of_le (Nat.le_of_lt_succ hj)with h|rfl
  ·exact hall j h
  ·rw[hx,hy,heq]
 obtain rfl:i=xs.length:=aa
 have heq:xs=ys:=List.ext_getElem? fun j=> by
  by_cases hj:j<xs.length
  ·exact hall j hj
  ·rw[List.getElem?_eq_none (aa),List.getElem?_eq_none (aa)]
 refine gk (k:=rt_ Tryz.results20 (k:=?_))
 exact⟨_,hsb,by rw[Ys heq];all_goals rfl,rfl⟩
theorem By {G:cK}{H:cG}{s s2:SV}{xs ys:List Hit}{a b c d e f:Int} [Sl H s rb xs] [Sl H s2 rb ys] (hn:xs.length≤1000000000000):SC G Tryz.prog 11 [.agg [s.val, .int .i64 a, .int .i64 b, .int .i64 c].toArray, .agg [s2.val, .int .i64 d, .int .i64 e, .int .i64 f].toArray] H (fun v H'=> v= .bool (decide (a=d) && decide (b=e) && decide (c=f) && decide (xs=ys))∧H'=H):=by
 refine sWk Tryz.func11 Tryz.ntmps11 ?_
 refine gk (k:=bxx (k:=fun b2=>?_))
 refine bxx (k:=fun b3=>?_)
 refine gk (k:=dh 6 16 (k:=fun h1=>gk (k:=edq)) (q:=gk (k:=dh 6 23 (k:=fun h2=>gk (k:=edq)) (q:=?_))))
 refine gk (k:=dh 6 30 (k:=fun h3=>gk (k:=kK (vs:=[_,_]) (hc:=(LI hn)) (k:=gk (k:=edq)))) (q:=gk (k:=rt_ Tryz.results11 (k:=?_))))
 exact⟨_,hsb,rfl,rfl⟩
abbrev fxF:List FV:= [⟨⟨#[116]⟩,1,false,false,false⟩]
abbrev fxD:List Doc:= [(0, [(⟨#[116]⟩,⟨#[97,32,97,32,98]⟩)]),(1, [(⟨#[116]⟩,⟨#[98]⟩)]),(2, [(⟨#[116]⟩,⟨#[97]⟩)])]
abbrev fxP:PrG:=⟨[1], [(0,⟨#[97]⟩)], [],false, [0], [4,0,1,0]⟩
abbrev fxQ:PtD:=⟨fxF,fxD, [0]⟩
abbrev fxI:List Ins:= [(4,0,1),(0,0,0)]
theorem AT:oF fxF fxD=0:=ay
theorem wL:nv fxP fxQ= .ok fxI:=by
 have h1:(gD fxP).isSome=true:=ay
 have h2:lr fxP=some fxI:=ay
 obtain⟨tb,h3⟩:=Option.isSome_iff_exists.1 h1
 rw[nv,h3,h2];all_goals rfl
def fxR:List Hit×MS:=Fx (cS fxP fxQ fxI) (lh (iQ fxP fxQ))
theorem Np:fxR.1= [(0,409),(2,465)]∧fxR.2.steps=4∧kX fxR.2=3∧fxR.2.visits=2:=ay
structure zF (H:cG) (a:PtA) (fs:List FV) (ds:List Doc):Prop where
 g:cQ H a.g [a.fv.val,a.dv.val,a.lv.val, .pointer (some ⟨a.w,0,none⟩),a.bl.val,a.im.val]
 w:cQ H a.w [a.ev.val]
 fv:Sl H a.fv eF fs
 dv:Sl H a.dv eD a.l
 docs:ga H a.l ds
 lv:Sl H a.lv eSV a.lvs
 lens:a.lvs.length=fs.length∧∀i s,a.lvs[i]? =some s→Sl H s eI (cV (dP fs ds i))
 ev:Sl H a.ev eEn (gb 0 (dm (eE fs ds)))
 bl:Sl H a.bl eB (dB (dm (eE fs ds)))
theorem zF.less {H H':cG}{a:PtA}{fs:List FV}{ds:List Doc}(hs:cJ H' H) (h:zF H a fs ds):zF H' a fs ds:=⟨jo hs h.g,jo hs h.w,dD hs h.fv,dD hs h.dv,h.docs.less hs,dD hs h.lv,⟨h.lens.1,fun i s hi=> dD hs (h.lens.2 i s hi)⟩,dD hs h.ev,dD hs h.bl⟩
theorem lG {F H:cG}:cJ (fB F::H) F:=fun L hL=> by
 obtain⟨L1,L2,rfl,h1,_⟩:=pM hL
 exact⟨L1,L2,h1,List.Perm.refl _⟩
theorem JF {H R:cG}{zs:List (SV×List Nat)}{fs:List FV}{ds:List Doc}(hr:nd H (Cl lnH zs) R) (h:zs.map (·.2)=(List.range fs.length).map (dP fs ds)):(zs.map (·.1)).length=fs.length∧∀i s,(zs.map (·.1))[i]? =some s→Sl H s eI (cV (dP fs ds i)):=by
 have hl:zs.length=fs.length:=by have:=congrArg List.length h;simpa using this
 refine⟨by rw[Yh,hl],fun i s hi=> ?_⟩
 rw[Xd]at hi
 cases hz:zs[i]? with
 |none=> rw[hz]at hi;cases hi
 |some z=>
  rw[hz]at hi
  cases hi
  have h1:=congrArg (fun l=> l[i]?) h
  have hil:=(Yk.1 hz).1
  simp only[Xd,hz,List.getElem?_range (show i<fs.length from aa),Option.map_some]at h1
  have:=Lc hr hz
  rw[Option.some.inj h1]at this
  exact this
theorem LL {G:cK}{H:cG}{fv s:SV}{fs:List FV}{ds:List Doc} [hg:Glb G H] [Tab H 27 lg] [Tab H 25 jP] [hf:Sl H fv eF fs] [hs:Sl H s eB (y7 fs ds)] [Spc H] (hT:gU G) (hS:lz) (hck:oF fs ds=0) (hz0:dsz ds≤30000000) (ht0:(eE fs ds).length≤2000000) (hn:(y7 fs ds).length≤1000000000):
 SC G Tryz.prog 54 [.agg [fv.val].toArray,s.val] H (fun v H'=> ∃(a:PtA) (F:cG),zF F a fs ds∧v= .tuple #[.pointer (some ⟨a.g,0,none⟩), .nilIface]∧H'=fB F::H):=by
 have hok:=mZ hck hz0 ht0
 have hc:=hok.chk
 obtain⟨hc1,hc2⟩:=il hc
 have hne:fs≠ []:=fun h=> by rw[h]at hc1;simp at hc1
 have hsg:=hok.blocks
 have hb:∀x∈y7 fs ds,x<256:=JM (ag) (fun q hq=> ⟨(hsg.1 q hq).2.1,(hsg.1 q hq).2.2⟩)
 have hr0:jQ 83 (y7 fs ds)=some (lJ fs ds):=Ag (ag) (ag) (by simp[lJ]) (fun q hq=> by
  obtain⟨a,b,c⟩:=hsg.1 q hq
  have:=qk hq
  exact⟨a,b,c,by have:=hsg.2.1;omega⟩)
 have hdo:=zf hok
 have hfew:=hok.few
 have hsB:=iM (fs:=fs) (ds:=ds) (aa) hok.q
 have hiB:(mH ds).length≤10*4096+6:=by
  have h7:=ob (l:=ds.map (·.1)) hok.pos (fun x hx=> by obtain⟨d,hd,rfl⟩:=List.mem_map.1 hx;have:=hok.ids d hd;omega)
  rw[Yh]at h7
  have h8:=ef (n:=ds.length) (k:=6) (aa) (aa)
  rw[mH,Ya];omega
 refine sWk Tryz.func54 Tryz.ntmps54 ?_
 refine gk (k:=bxx (k:=fun b2=>?_))
 refine go ?_
 refine c1_ rfl (wq (fs:=fs) (aa) (fun f hf=> by have:=(hc2 f hf).1;omega)) (k:=?_)
 rintro _ _ ⟨rfl,(⟨hc0,rfl⟩|⟨hc0,rfl⟩)⟩
 ·exact absurd hc0 (by rw[hc];decide)
 refine e_ asn (k:=on_ (qn_ (ws_ (wr_ (e_ mv (k:=?_))))))
 refine e_ (cM rfl) (k:=?_)
 refine gk (k:=eg (k:=go ?_))
 refine c2_ rfl (JX 83 (ag) (aa) hb) (k:=?_)
 rintro _ _ (⟨hr,rfl,e,rfl⟩|⟨bl,lb,F0,s21,hr,hB,rfl,rfl⟩)
 ·rw[hr0]at hr;cases hr
 rw[hr0]at hr
 obtain rfl:=Option.some.inj hr
 have hq:=QC hb hr0
 have hlb:=hB.1
 have hl6:(lJ fs ds).length=6:=rfl
 refine e_ mv (k:=e_ exr (k:=e_ exr (k:=e_ asn (k:=e_ asn (k:=on_ (qn_ (ws_ (ws_ (wr_ (e_ mv (k:=?_)))))))))))
 refine e_ (cM rfl) (k:=?_)
 refine gk (k:=wi_ (k:=fun h1=>?_) (m:=fun h1=>?_))
 ·exact absurd h1 (aa)
 obtain⟨p1,q1,hp1,hq1,hs1⟩:=hB.at6 (i:=1) (by rw[hl6];decide)
 obtain⟨p3,q3,hp3,hq3,hs3⟩:=hB.at6 (i:=3) (by rw[hl6];decide)
 obtain⟨p4,q4,hp4,hq4,hs4⟩:=hB.at6 (i:=4) (by rw[hl6];decide)
 obtain⟨p5,q5,hp5,hq5,hs5⟩:=hB.at6 (i:=5) (by rw[hl6];decide)
 obtain⟨hb1,hl1⟩:=hq _ (Yj hq1)
 obtain⟨hb3,hl3⟩:=hq _ (Yj hq3)
 obtain⟨hb5,hl5⟩:=hq _ (Yj hq5)
 obtain rfl:(2,mH ds)=q1:=Option.some.inj hq1
 obtain rfl:(4,fA (gb 0 (dm (eE fs ds))))=q3:=Option.some.inj hq3
 obtain rfl:(5,dB (dm (eE fs ds)))=q4:=Option.some.inj hq4
 obtain rfl:(6,ep fs ds)=q5:=Option.some.inj hq5
 simp only at hs1 hs3 hs4 hs5 hb1 hb5 hl1 hl3 hl5
 refine go ?_
 refine df cI (fun i=> [9].contains i) (fun k H=> (k=0→cQ H b2 [fv.val])∧(k=2→Sl H s21 eK lb)∧(k=3→Sl H s21 eK lb)∧(k=4→Sl H s21 eK lb)∧(k=6→Sl H s21 eK lb)∧(k=7→Sl H s21 eK lb)∧(k=8→Sl H s21 eK lb)) (?_)
 refine cE 0 rfl rfl (a8) rfl (cD fun H hH=>bH) (?_)
 refine af_ 1 (q:=cD fun H hH=>mv) (k:=?_)
 refine cE 2 rfl rfl (a8) rfl (cD fun H hH=>by have hN:=hH.2.1 rfl;exact ixa (i:=1)) (?_)
 refine cE 3 rfl rfl (a8) rfl (cD fun H hH=>by have hN:=hH.2.2.1 rfl;exact fle) (?_)
 refine cE 4 rfl rfl (a8) rfl (cD fun H hH=>by have hN:=hH.2.2.2.1 rfl;exact lfl) (?_)
 refine af_ 5 (q:=cD fun H hH=>mv) (k:=?_)
 refine cE 6 rfl rfl (a8) rfl (cD fun H hH=>by have hN:=hH.2.2.2.2.1 rfl;exact ixa (i:=5)) (?_)
 refine cE 7 rfl rfl (a8) rfl (cD fun H hH=>by have hN:=hH.2.2.2.2.2.1 rfl;exact fle) (?_)
 refine cE 8 rfl rfl (a8) rfl (cD fun H hH=>by have hN:=hH.2.2.2.2.2.2 rfl;exact lfl) (?_)
 refine cN 9 rfl (a8) rfl (fun k hk=> ⟨fun hi=> ab,fun hi=> ab,fun hi=> ab,fun hi=> ab,fun hi=> ab,fun hi=> ab,fun hi=> ab⟩) (cW (vs:= [_,_,_]) rfl (O5 (ids:=mH ds) (body:=ep fs ds) hc (aa) (aa) hb1 hb5)) ?_
 rintro _ _ (⟨hd,s42,rfl,rfl⟩|⟨zs,s42,hd,rfl,rfl⟩)
 ·rw[hdo]at hd;cases hd
 rw[hdo]at hd
 obtain rfl:=Option.some.inj hd
 have hzm:(zs.map dgV).length=zs.length:=Yh ..
 have hk2:∀d∈zs.map dgD,d.2.length≤64∧∀v∈d.2,v.2.size≤4096:=fun d hd=> by
  obtain⟨g1,g2⟩:=nW (hok.vals d hd)
  exact⟨g1,fun v hv=> (g2 v hv).1⟩
 have hfew2:zs.length≤4096:=by rw[Yh]at hfew;exact hfew
 refine af_ 10 (q:=cD fun H hH=>mv) (k:=af_ 11 (q:=cD fun H hH=>exr) (k:=af_ 12 (q:=cD fun H hH=>exr) (k:=af_ 13 (q:=cD fun H hH=>asn) (k:=af_ 14 (q:=cD fun H hH=>asn) (k:=db (a8) (fun k hk=> ⟨fun hi=> absurd hk (ad),fun hi=> ab,fun hi=> ab,fun hi=> absurd hk (ad),fun hi=> ab,fun hi=> ab,fun hi=> absurd hk (ad)⟩) (go ?_))))))
 refine eg (k:=go ?_)
 refine c2_ rfl (F7 (ds:=zs.map dgD) hT hS (Cs (zs:=zs) inferInstance) (aa) (fun f hf=> by have:=(hc2 f hf).1;omega) (aa) (fun d hd=> ⟨cB,fun v hv=> by have:=(hk2 d hd).2 v hv;omega⟩) hz0 ht0) (k:=?_)
 rintro _ _ (⟨hck0,s51,rfl,rfl⟩|⟨hck0,ke,hke,rfl,rfl⟩)
 ·refine e_ mv (k:=e_ exr (k:=e_ exr (k:=e_ asn (k:=e_ asn (k:=on_ (qn_ (ws_ (ws_ (wr_ (e_ mv (k:=?_)))))))))))
  refine e_ (cM rfl) (k:=?_)
  refine go ?_
  refine sg_ (cW (vs:= [_,_]) rfl (Kw hb hb)) (k:=?_)
  rintro _ _ ⟨rfl,rfl⟩
  refine gk (k:=wi_ (k:=fun h2=>?_) (m:=fun h2=>?_))
  ·exact absurd h2 (an)
  have hrl:=pS (eE fs (zs.map dgD))
  have hdl:(fA (gb 0 (dm (eE fs (zs.map dgD))))).length≤1000000000:=Xi hl3 hn
  refine wk_ (qn_ (ws_ (wr_ (e_ mv (k:=e_ (ixa (i:=3)) (k:=go ?_))))))
  refine c1_ rfl (CU (l:=gb 0 (dm (eE fs (zs.map dgD)))) hsg.2.2.1 (by rw[gS];omega) hdl) (k:=?_)
  rintro _ _ ⟨bd,sed,rfl,rfl⟩
  refine e_ mv (k:=e_ exr (k:=e_ exr (k:=e_ asn (k:=e_ asn (k:=on_ (qn_ (ws_ (ws_ (wr_ (e_ mv (k:=?_)))))))))))
  refine e_ (cM rfl) (k:=?_)
  refine gk (k:=eg (k:=go ?_))
  refine c1_ rfl (Hw (fs:=fs) hne (aa)) (k:=?_)
  rintro _ _ ⟨s76,rfl,rfl⟩
  refine e_ (bld [(0,_)]) (k:=alc (k:=fun b13=>?_))
  refine go ?_
  refine df cI (fun i=> [4,7,15].contains i) (fun k H=> (k=0→cQ H b13 [s76.val])∧(k=2→cQ H b13 [s76.val])∧(k=10→Sl H s21 eK lb)∧(k=11→Sl H s21 eK lb)∧(k=12→Sl H s21 eK lb)) (?_)
  refine cE 0 rfl rfl (a8) rfl (cD fun H hH=>bH) (?_)
  refine af_ 1 (q:=cD fun H hH=>mv) (k:=?_)
  refine cE 2 rfl rfl (a8) rfl (cD fun H hH=>by have hN:=hH.2.1 rfl;exact lds) (?_)
  refine af_ 3 (q:=cD fun H hH=>mv) (k:=af_ 8 (q:=cD fun H hH=>mv) (k:=af_ 9 (q:=cD fun H hH=>mv) (k:=?_)))
  refine cE 10 rfl rfl (a8) rfl (cD fun H hH=>by have hN:=hH.2.2.1 rfl;exact ixa (i:=4)) (?_)
  refine cE 11 rfl rfl (a8) rfl (cD fun H hH=>by have hN:=hH.2.2.2.1 rfl;exact fle) (?_)
  refine cE 12 rfl rfl (a8) rfl (cD fun H hH=>by have hN:=hH.2.2.2.2 rfl;exact lfl) (?_)
  refine af_ 13 (q:=cD fun H hH=>mv) (k:=?_)
  refine cN 4 rfl (a8) rfl (fun k hk=> ⟨fun hi=> ab,fun hi=> ab,fun hi=> ab,fun hi=> ab,fun hi=> ab⟩) (cW (vs:= [_,_]) rfl (BE (ds:=zs.map dgD) hT (Cs (zs:=zs) inferInstance) (aa) (aa) (fun d hd=> ⟨cB,fun v hv=> by have:=(hk2 d hd).2 v hv;omega⟩) hz0)) ?_
  rintro _ _ ⟨gg,lv,rr,zz,rfl,hzz,rfl⟩
  haveI:=hs4
  refine af_ 5 (q:=cD fun H hH=>nck) (k:=af_ 6 (q:=cD fun H hH=>fla) (k:=?_))
  refine cN 7 rfl (a8) rfl (fun k hk=> ⟨fun hi=> ab,fun hi=> absurd hk (ad),fun hi=> ab,fun hi=> ab,fun hi=> ab⟩) (Ev.st ldv) ?_
  rintro _ _ ⟨rfl,rfl⟩
  refine af_ 14 (q:=cD fun H hH=>bld [(0,_),(1,_),(2,_),(3,_),(4,_),(5,_)]) (k:=?_)
  refine cN 15 rfl (a8) rfl (fun k hk=> ⟨fun hi=> ab,fun hi=> absurd hk (ad),fun hi=> ab,fun hi=> ab,fun hi=> ab⟩) (th rfl) ?_
  rintro _ _ ⟨b93,rfl,rfl⟩
  refine af_ 16 (q:=cD fun H hH=>asn) (k:=af_ 17 (q:=cD fun H hH=>asn) (k:=db (a8) (fun k hk=> ⟨fun hi=> ab,fun hi=> absurd hk (ad),fun hi=> ab,fun hi=> ab,fun hi=> ab⟩) (gk (k:=rt_ Tryz.results54 (k:=?_)))))
  refine⟨_,?_,⟨0,b93,0,bd,s76,s42,lv,sed,p4.2,s51,SV.nil,0,zs.map dgV,zz.map fun z:SV×List Nat=> z.1⟩, [Vr b93 [s76.val,s42.val,lv.val, .pointer (some ⟨bd,0,none⟩),p4.2.val,s51.val],Row s76 eF fs,Row s42 eD (zs.map dgV),Cl dgH zs,Row lv eSV (zz.map fun z:SV×List Nat=> z.1),Cl lnH zz,Vr bd [sed.val],Row sed eEn (gb 0 (dm (eE fs (zs.map dgD)))),fB F0],⟨inferInstance,inferInstance,inferInstance,inferInstance,Cs (zs:=zs) inferInstance,inferInstance,JF (zs:=zz) inferInstance hzz,inferInstance,inferInstance⟩,rfl,rfl⟩
  exact cJ.trans (H':=Vr b93 [s76.val,s42.val,lv.val, .pointer (some ⟨bd,0,none⟩),p4.2.val,s51.val]::Row s76 eF fs::Row s42 eD (zs.map dgV)::Cl dgH zs::Row lv eSV (zz.map fun z:SV×List Nat=> z.1)::Cl lnH zz::Vr bd [sed.val]::Row sed eEn (gb 0 (dm (eE fs (zs.map dgD))))::fB F0::H) (hsb) (cJ.star (F:= [Vr b93 [s76.val,s42.val,lv.val, .pointer (some ⟨bd,0,none⟩),p4.2.val,s51.val],Row s76 eF fs,Row s42 eD (zs.map dgV),Cl dgH zs,Row lv eSV (zz.map fun z:SV×List Nat=> z.1),Cl lnH zz,Vr bd [sed.val],Row sed eEn (gb 0 (dm (eE fs (zs.map dgD)))),fB F0]) cJ.refl)
 exact absurd hck hck0
theorem xL {G:cK}{H:cG}{s:SV}{fs:List FV} [Sl H s eF fs] (hn:fs.length≤1000000000):SC G Tryz.prog 52 [.agg [s.val].toArray] H (fun v H'=> ∃s':SV,v= .agg [s'.val].toArray∧H'=Row s' eF fs::H):=by
 refine sWk Tryz.func52 Tryz.ntmps52 ?_
 refine gk (k:=bxx (k:=fun b1=>?_))
 refine alc (k:=fun b2=>?_)
 refine go ?_
 refine s_ (iN eF rfl) (k:=?_)
 rintro _ _ ⟨s3,rfl,rfl⟩
 refine gk (k:=app (k:=fun s6=>?_))
 refine e_ (bld [(0,_)]) (k:=gk (k:=rt_ Tryz.results52 (k:=?_)))
 exact⟨_,hsb,s6,rfl,rfl⟩
theorem Mc {G:cK}{H:cG}{dv:SV}{l:List (Int×SV)}{ds:List Doc} [hd:Sl H dv eD l] (hdi:ga H l ds) (hn:ds.length≤1000000) (hv:∀d∈ds,d.2.length≤1000000):SC G Tryz.prog 53 [dv.val] H (fun v H'=> ∃(s':SV) (zs:List DG),zs.map dgD=ds∧v=s'.val∧H'=Row s' eD (zs.map dgV)::Cl dgH zs::H):=by
 have hll:=hdi.1
 refine sWk Tryz.func53 Tryz.ntmps53 ?_
 refine go ?_
 refine s_ (iN eD rfl) (k:=?_)
 rintro _ _ ⟨s6,rfl,rfl⟩
 refine e_ asn (k:=on_ (qn_ (ws_ (ws_ (wr_ (?_))))))
 refine du (fe (f:=dgH) cJ.refl) ?_
 refine gk (k:=dt (Nat×SV×(List DG)) (fun y=> y.1≤ds.length∧y.2.2.map dgD=ds.take y.1) (fun y=> [(3,y.2.1.val),(9, .int .i64 ((y.1:Nat):Int))]) [(7,_),(8,_)] (fun y=> [Row y.2.1 eD (y.2.2.map dgV),Cl dgH y.2.2]) _ (fun y=> ds.length - y.1) ((0,s6, [])) (h0:=?_) (k:=?_))
 ·try dsimp only
  exact⟨Yl _,rfl⟩
 rintro⟨i,u,zs⟩ ⟨hi,hzs⟩
 try dsimp only[Yd,Ye]at*
 refine gk (k:=wi_ (k:=fun h1=>?_) (m:=fun h1=>?_))
 ·obtain⟨d,sv,vs,hl,hds,hsv⟩:=hdi.get (i:=i) (aa)
  have hvl:vs.length≤1000000:=hv _ (Yj hds)
  have hzl:(zs.map dgV).length≤1000000:=bP
  refine wk_ (qn_ (ws_ (wb_ (ws_ (wr_ (e_ ixa (k:=e_ (jn (hy:=hl)) (k:=alc (k:=fun b5=>?_)))))))))
  refine go ?_
  refine df cI (fun i=> [3,6,8,9].contains i) (fun k H=> (k=2→cQ H b5 [.int .i64 d,sv.val])∧(k=5→cQ H b5 [.int .i64 d,sv.val])) (af_ 0 (q:=cD fun H hH=>mv) (k:=af_ 1 (q:=cD fun H hH=>fla) (k:=?_)))
  refine cE 2 rfl rfl (a8) rfl (cD fun H hH=>ak) (?_)
  refine af_ 4 (q:=cD fun H hH=>fla) (k:=?_)
  refine cE 5 rfl rfl (a8) rfl (cD fun H hH=>aE) (?_)
  refine cN 3 rfl (a8) rfl (fun k hk=> ⟨fun hi=> ab,fun hi=> ab⟩) (iN eVl rfl) ?_
  rintro _ _ ⟨s16,rfl,rfl⟩
  refine cN 6 rfl (a8) rfl (fun k hk=> ⟨fun hi=> ab,fun hi=> ab⟩) (eY rfl rfl rfl rfl (af) (af)) ?_
  rintro _ _ ⟨s19,rfl,rfl⟩
  refine af_ 7 (q:=cD fun H hH=>bld [(0,_),(1,_)]) (k:=?_)
  refine cN 8 rfl (a8) rfl (fun k hk=> ⟨fun hi=> ab,fun hi=> absurd hk (ad)⟩) (ew eD rfl rfl) ?_
  rintro _ _ ⟨s21,rfl,rfl⟩
  refine cN 9 rfl (a8) rfl (fun k hk=> ⟨fun hi=> ab,fun hi=> absurd hk (ad)⟩) (eY rfl rfl rfl rfl (af) (af)) ?_
  rintro _ _ ⟨s22,rfl,rfl⟩
  refine af_ 10 (q:=cD fun H hH=>asn) (k:=db (a8) (fun k hk=> ⟨fun hi=> ab,fun hi=> absurd hk (ad)⟩) (bn_ (qn_ (wr_ (?_)))))
  refine du (H':=Row s22 eD ((zs++ [(⟨d,s19,vs⟩:DG)]).map dgV)::Cl dgH (zs++ [(⟨d,s19,vs⟩:DG)])::H) (cJ.trans (H':=Row s19 eVl vs::Cl dgH zs::Row s22 eD ((zs++ [(⟨d,s19,vs⟩:DG)]).map dgV)::H) (by rw[List.map_append];exact hsb) ((Cr ⟨d,s19,vs⟩).trans (hsb))) ?_
  refine go ?_
  refine ln_ ((i+1,s22,zs++ [(⟨d,s19,vs⟩:DG)])) (k:=?_)
  try dsimp only
  exact⟨aa,by rw[List.map_append,hzs,cP hds];all_goals rfl⟩
 obtain rfl:i=ds.length:=aa
 rw[List.take_length]at hzs
 refine gk (k:=rt_ Tryz.results53 (k:=?_))
 exact⟨_,hsb,u,zs,hzs,rfl,rfl⟩
def Ba (n:Nat) (dead:List Int) (ws:List Nat):Prop:=ws.length=(n+63) / 64∧okW ws∧(dead= []→ws=List.replicate ((n+63) / 64) 0)
theorem Jq {H:cG}{a:PtA}{p d cnt:Nat}{sw:SV}{fs:List FV}{ds:List Doc}{ws:List Nat}(hs:zF H a fs ds) (hp:cQ H p [.pointer (some ⟨a.g,0,none⟩), .pointer (some ⟨d,0,none⟩)]) (hd:cQ H d [.int .i64 ((ds.length:Nat):Int), .int .i64 ((cnt:Nat):Int),sw.val]) (hw:Sl H sw eW ws):dq H {a with p:=p,d:=d,ws:=sw,cnt:=cnt} ⟨fs,ds,ws⟩:=
 ⟨hp,hs.g,hd,hs.w,hs.fv,hs.dv,hs.docs,hs.lv,hs.lens,hs.ev,hs.bl,hw⟩
theorem dq.star {F H:cG}{a:PtA}{q:PtD}(h:dq F a q):dq (fB F::H) a q:=h.less lG
section
variable {G:cK}{P:Program}{N:Nat}{Q:Go.Sx.Post}{t:Tm}{H:cG}{ops:Array Oper}{l:List Oper}
theorem MG {R:cG}(b:Nat) {p:DsG} [hr:Rem H Ds b p R] (h:∀s:SV,O G P N ops l Q t (Vr b [.int .i64 ((p.n:Nat):Int), .int .i64 ((p.c:Nat):Int),s.val]::Row s eW p.ws::R)):O G P N ops l Q t H:=
 ⟨fun a w ha hw=> let ⟨s,hs⟩:=mo (K:=Ds) rfl hr hw;(h s).go a w ha hs⟩
end
theorem KP {G:cK}{H:cG}{fv dv xv:SV}{fs:List FV}{l:List (Int×SV)}{ds:List Doc}{dead:List Int} [hg:Glb G H] [Tab H 27 lg] [Tab H 25 jP] [hf:Sl H fv eF fs] [hd:Sl H dv eD l] [hx:Sl H xv eI dead] [Spc H] (hT:gU G) (hS:lz) (hdi:ga H l ds) (hck:oF fs ds=0) (hz0:dsz ds≤30000000) (ht0:(eE fs ds).length≤2000000) (hn:(y7 fs ds).length≤1000000000) (hxl:dead.length≤1000000000):
 SC G Tryz.prog 24 [.agg [fv.val].toArray, .agg [dv.val,xv.val].toArray] H (fun v H'=> ∃(pt:PtA) (ws:List Nat) (F:cG),Ba ds.length dead ws∧dq F pt ⟨fs,ds,ws⟩∧v= .pointer (some ⟨pt.p,0,none⟩)∧H'=fB F::H):=by
 have hok:=mZ hck hz0 ht0
 have hc:=hok.chk
 obtain⟨hc1,hc2⟩:=il hc
 have hfew:=hok.few
 have hll:=hdi.1
 have hk2:∀d∈ds,d.2.length≤64∧∀v∈d.2,v.2.size≤4096:=fun d hd=> by
  obtain⟨g1,g2⟩:=nW (hok.vals d hd)
  exact⟨g1,fun v hv=> (g2 v hv).1⟩
 refine sWk Tryz.func24 Tryz.ntmps24 ?_
 refine gk (k:=bxx (k:=fun b2=>?_))
 refine bxx (k:=fun b3=>?_)
 refine go ?_
 refine df cI (fun i=> [1,4,5].contains i) (fun k H=> (k=0→cQ H b2 [fv.val])∧(k=3→cQ H b3 [dv.val,xv.val])) (?_)
 refine cE 0 rfl rfl (a8) rfl (cD fun H hH=>bH) (?_)
 refine af_ 2 (q:=cD fun H hH=>fla) (k:=?_)
 refine cE 3 rfl rfl (a8) rfl (cD fun H hH=>aE) (?_)
 refine cN 1 rfl (a8) rfl (fun k hk=> ⟨fun hi=> ab,fun hi=> ab⟩) (cW (vs:= [_]) rfl (xL (aa))) ?_
 rintro _ _ ⟨s14,rfl,rfl⟩
 refine cN 4 rfl (a8) rfl (fun k hk=> ⟨fun hi=> absurd hk (ad),fun hi=> ab⟩) (cW (vs:= [_]) rfl (Mc (ds:=ds) (hdi.less (hsb)) (aa) (fun d hd=> cB))) ?_
 rintro _ _ ⟨s17,zs,hzs,rfl,rfl⟩
 refine cN 5 rfl (a8) rfl (fun k hk=> ⟨fun hi=> absurd hk (ad),fun hi=> absurd hk (ad)⟩) (cW (vs:= [_,_]) rfl (F7 (ds:=ds) hT hS (by rw[←hzs];exact Cs (zs:=zs) inferInstance) (aa) (fun f hf=> by have:=(hc2 f hf).1;omega) (aa) (fun d hd=> ⟨cB,fun v hv=> by have:=(hk2 d hd).2 v hv;omega⟩) hz0 ht0)) ?_
 rintro _ _ (⟨hck0,s51,rfl,rfl⟩|⟨hck0,ke,hke,rfl,rfl⟩)
 ·refine af_ 6 (q:=cD fun H hH=>mv) (k:=af_ 7 (q:=cD fun H hH=>exr) (k:=af_ 8 (q:=cD fun H hH=>exr) (k:=af_ 9 (q:=cD fun H hH=>asn) (k:=af_ 10 (q:=cD fun H hH=>asn) (k:=db (a8) (fun k hk=> ⟨fun hi=> absurd hk (ad),fun hi=> absurd hk (ad)⟩) (qn_ (ws_ (ws_ (wr_ (e_ mv (k:=?_)))))))))))
  refine e_ (cM rfl) (k:=?_)
  refine gk (k:=eg (k:=go ?_))
  refine c1_ rfl (xL (aa)) (k:=?_)
  rintro _ _ ⟨s25,rfl,rfl⟩
  refine go ?_
  refine c2_ rfl (LL (ds:=ds) hT hS hck hz0 ht0 hn) (k:=?_)
  rintro _ _ ⟨sa,FS,hsg,rfl,rfl⟩
  refine e_ mv (k:=e_ exr (k:=e_ exr (k:=e_ asn (k:=e_ asn (k:=on_ (qn_ (ws_ (ws_ (wr_ (e_ mv (k:=?_)))))))))))
  refine e_ (cM rfl) (k:=?_)
  refine e_ mv (k:=eg_ mv (k:=?_))
  refine eg_ (dU rfl) (k:=?_)
  refine gk (k:=wi_ (k:=fun h1=>?_) (m:=fun h1=>?_))
  ·exact absurd h1 (an)
  refine wk_ (qn_ (ws_ (wr_ (e_ fla (k:=e_ ldv (k:=?_))))))
  refine e_ (evq lnn (congrArg (fun n:Nat=> Value.int .i64 (n:Int)) hll)) (k:=?_)
  refine c1_ rfl (Iy (n:=ds.length) (aa)) (k:=?_)
  rintro _ _ ⟨bs,rfl,rfl⟩
  refine e_ mv (k:=e_ exr (k:=e_ exr (k:=e_ asn (k:=e_ asn (k:=on_ (qn_ (ws_ (ws_ (wr_ (e_ mv (k:=?_)))))))))))
  refine e_ (cM rfl) (k:=?_)
  refine e_ mv (k:=eg_ mv (k:=?_))
  refine eg_ (dU rfl) (k:=?_)
  refine gk (k:=wi_ (k:=fun h2=>?_) (m:=fun h2=>?_))
  ·exact absurd h2 (an)
  refine gk (k:=dt (Nat×Nat×(List Nat)) (fun y=> y.1≤dead.length∧y.2.1≤y.1∧y.2.2.length=(ds.length+63) / 64∧okW y.2.2∧(y.1=0→y.2.2=List.replicate ((ds.length+63) / 64) 0)) (fun y=> [(52, .int .i64 ((y.1:Nat):Int))]) [(3,_),(7,_),(8,_),(50,_),(51,_)] (fun y=> [Ds bs ⟨ds.length,y.2.1,y.2.2⟩]) _ (fun y=> dead.length - y.1) ((0,0,List.replicate ((ds.length+63) / 64) 0)) (h0:=?_) (k:=?_))
  ·try dsimp only
   exact⟨Yl _,Nat.le_refl _,by rw[Xe],fun x hx=> by rw[List.mem_replicate]at hx;omega,fun _=> rfl⟩
  rintro⟨i,c,ws⟩ ⟨hi,hci,hwl,hwo,hw0⟩
  try dsimp only[Yd,Ye]at*
  refine gk (k:=wi_ (k:=fun h3=>?_) (m:=fun h3=>?_))
  ·obtain⟨e,he⟩:∃e,dead[i]? =some e:=⟨_,Yi (aa)⟩
   refine wk_ (qn_ (ws_ (wb_ (ws_ (wr_ (e_ ixa (k:=e_ (lel (hy:=he)) (k:=go ?_))))))))
   refine gk (k:=dh 6 64 (k:=fun h4=>gk (k:=edq)) (q:=gk (k:=wi_ (k:=fun h5=>?_) (m:=fun h5=>?_))))
   ·have hin:=h5
    refine go ?_
    refine c2_ rfl (Q3 (aa) (aa) hwl hwo) (k:=?_)
    rintro _ _ (⟨ho,rfl,rfl⟩|⟨h01,h02,xx,c',ws',rfl,rfl,hc',hwl',hwo',hbits⟩)
    ·exact absurd ho (aa)
    refine go ?_
    refine ln_ ((i+1,c',ws')) (k:=?_)
    try dsimp only
    exact⟨aa,aa,aa,hwo',fun h9=> aa⟩
   refine go ?_
   refine ln_ ((i+1,c,ws)) (k:=?_)
   try dsimp only
   exact⟨aa,aa,hwl,hwo,fun h9=> aa⟩
  obtain rfl:i=dead.length:=aa
  refine go ?_
  refine MG bs (fun sds=> ?_)
  haveI hq1:∀H9,cQ (fB FS::H9) sa.g [sa.fv.val,sa.dv.val,sa.lv.val, .pointer (some ⟨sa.w,0,none⟩),sa.bl.val,sa.im.val]:=fun H9=> jo lG hsg.g
  haveI hq2:∀H9,Sl (fB FS::H9) sa.dv eD sa.l:=fun H9=> dD lG hsg.dv
  refine go ?_
  refine c2_ rfl (EX (dv:= .nilIface) (n:=ds.length) (c:=c) (s:=sds) (ws:=ws) (aa) hsg.docs.1) (k:=?_)
  rintro _ _ ⟨bp,bd2,sd2,rfl,rfl⟩
  refine e_ mv (k:=e_ exr (k:=e_ exr (k:=e_ asn (k:=e_ asn (k:=on_ (qn_ (ws_ (ws_ (wr_ (e_ mv (k:=?_)))))))))))
  refine e_ (cM rfl) (k:=?_)
  refine e_ mv (k:=eg_ mv (k:=?_))
  refine eg_ (dU rfl) (k:=?_)
  refine e_ pkf (k:=e_ mv (k:=dN 6 87 (k:=fun h6=>eg_ mv (k:=eg_ nck (k:=eg_ fla (k:=eg_ ldv (k:=eg_ (dU rfl) (k:=e_ pkf (k:=on_ (edq)))))))) (q:=on_ (qn_ (wi_ (k:=fun h7=>?_) (m:=fun h7=>?_))))))
  ·exact absurd h7 (an)
  refine gk (k:=rt_ Tryz.results24 (k:=?_))
  refine⟨_,?_,{sa with p:=bp,d:=bd2,ws:=sd2,cnt:=c},ws, [fB FS,Vr bp [.pointer (some ⟨sa.g,0,none⟩), .pointer (some ⟨bd2,0,none⟩)],Vr bd2 [.int .i64 ((ds.length:Nat):Int), .int .i64 ((c:Nat):Int),sd2.val],Row sd2 eW ws],⟨hwl,hwo,fun h9=> hw0 (by rw[h9];all_goals rfl)⟩,Jq (hsg.less lG) inferInstance inferInstance inferInstance,rfl,rfl⟩
  exact cJ.trans (H':=fB FS::Vr bp [.pointer (some ⟨sa.g,0,none⟩), .pointer (some ⟨bd2,0,none⟩)]::Vr bd2 [.int .i64 ((ds.length:Nat):Int), .int .i64 ((c:Nat):Int),sd2.val]::Row sd2 eW ws::H) (hsb) (cJ.star (F:= [fB FS,Vr bp [.pointer (some ⟨sa.g,0,none⟩), .pointer (some ⟨bd2,0,none⟩)],Vr bd2 [.int .i64 ((ds.length:Nat):Int), .int .i64 ((c:Nat):Int),sd2.val],Row sd2 eW ws]) cJ.refl)
 exact absurd hck hck0
def kZ (fs:List FV) (ds:List Doc):Bool:=decide (ds.length≤4096) && decide (l7 fs (-1) ds=0)
abbrev ja:=List Doc×List Int
def rX (fs:List FV) (ps:List ja):Bool:=fI fs && ps.all fun p=> kZ fs p.1
theorem Cg {fs:List FV}{ps:List ja}(h:rX fs ps=true) {p:ja}(hp:p∈ps):oF fs p.1=0:=by
 rw[rX,Bool.and_eq_true,List.all_eq_true]at h
 have h2:=h.2 p hp
 rw[kZ,Bool.and_eq_true,decide_eq_true_eq,decide_eq_true_eq]at h2
 rw[oF,h.1,if_neg (ag),if_neg (aa)];exact h2.2
def Qb (H:cG) (p:SV×SV) (d:ja):Prop:=(∃l,Sl H p.1 eD l∧ga H l d.1)∧Sl H p.2 eI d.2
def oS (H:cG) (lp:List (SV×SV)) (ps:List ja):Prop:=lp.length=ps.length∧∀(i:Nat) (p:SV×SV) (d:ja),lp[i]? =some p→ps[i]? =some d→Qb H p d
theorem oS.get {H:cG}{lp:List (SV×SV)}{ps:List ja}(h:oS H lp ps) {i:Nat}(hi:i<lp.length):∃p d l,lp[i]? =some p∧ps[i]? =some d∧Sl H p.1 eD l∧ga H l d.1∧Sl H p.2 eI d.2:=by
 have h1:lp[i]? =some lp[i]:=Yi hi
 have h2:ps[i]? =some (ps[i]'(by have:=h.1;omega)):=Yi _
 obtain⟨⟨l,h3,h4⟩,h5⟩:=h.2 i _ _ h1 h2
 exact⟨_,_,l,h1,h2,h3,h4,h5⟩
theorem oS.less {H H':cG}{lp:List (SV×SV)}{ps:List ja}(hs:cJ H' H) (h:oS H lp ps):oS H' lp ps:=⟨h.1,fun i p d hp hd=> by
 obtain⟨⟨l,h1,h2⟩,h3⟩:=h.2 i p d hp hd
 exact⟨⟨l,dD hs h1,h2.less hs⟩,dD hs h3⟩⟩
structure SmD (fs:List FV) (ds:List Doc):Prop where
 fl:fs.length≤1000000
 fn:∀f∈fs,f.name.size≤1000000000
 n:ds.length≤1000000000
 q:∀d∈ds,d.2.length≤1000000000∧∀v∈d.2,v.2.size≤1000000000
theorem M0 {G:cK}{H:cG}{fv dv:SV}{fs:List FV}{l:List (Int×SV)}{ds:List Doc} [hf:Sl H fv eF fs] [hd:Sl H dv eD l] (hdi:ga H l ds) (hsm:SmD fs ds):SC G Tryz.prog 50 [.agg [fv.val].toArray,dv.val] H (fun v H'=> v= .bool (kZ fs ds)∧H'=H):=by
 have hll:=hdi.1
 have hn:=hsm.n
 refine sWk Tryz.func50 Tryz.ntmps50 ?_
 refine gk (k:=bxx (k:=fun b2=>?_))
 refine gk (k:=wi_ (k:=fun h1=>?_) (m:=fun h1=>?_))
 ·have hbad:kZ fs ds=false:=by rw[kZ,Yr (az),Bool.false_and]
  refine gk (k:=rt_ Tryz.results50 (k:=?_))
  exact⟨_,hsb,by rw[hbad];all_goals rfl,rfl⟩
 have hgd:kZ fs ds=decide (l7 fs (-1) ds=0):=by rw[kZ,Ys (az),Bool.true_and]
 refine go ?_
 refine gk (k:=dt (Nat×Int) (fun y=> y.1≤ds.length∧ -1≤y.2∧(l7 fs (-1) ds=0↔l7 fs y.2 (ds.drop y.1)=0)) (fun y=> [(5, .int .i64 y.2),(14, .int .i64 ((y.1:Nat):Int))]) [(2,_),(12,_),(13,_)] (fun y=> []) _ (fun y=> ds.length - y.1) ((0, -1)) (h0:=?_) (k:=?_))
 ·try dsimp only
  exact⟨Yl _,ag,Iff.rfl⟩
 rintro⟨i,la⟩ ⟨hi,hla,hck⟩
 try dsimp only[Yd,Ye]at*
 refine gk (k:=wi_ (k:=fun h2=>?_) (m:=fun h2=>?_))
 ·obtain⟨d,sv,vs,hl,hds,hsv⟩:=hdi.get (i:=i) (aa)
  have hq:=hsm.q _ (Yj hds)
  rw[dF hds,l7]at hck
  simp only at hck hq
  refine wk_ (qn_ (ws_ (wb_ (ws_ (wr_ (e_ ixa (k:=e_ (jn (hy:=hl)) (k:=alc (k:=fun b7=>?_)))))))))
  refine gk (k:=dN 4 26 (k:=fun h3=>gk (k:=edq)) (q:=go ?_))
  refine wi_ (k:=fun h4=>?_) (m:=fun h4=>?_)
  ·have hbad:kZ fs ds=false:=by
    rw[hgd,Yr]
    intro h8
    have h7:=hck.1 h8
    have h9:=h4
    split at h7
    ·cases h7
    ·split at h7
     ·cases h7
     ·omega
   refine gk (k:=rt_ Tryz.results50 (k:=?_))
   exact⟨_,hsb,by rw[hbad];all_goals rfl,rfl⟩
  have hin:la<d∧d<1099511627776:=by have h9:=h4;omega
  rw[if_neg (aa),if_neg (aa)]at hck
  refine go ?_
  refine d2_ rfl (Ot hsm.fl hsm.fn hq.1 hq.2) (k:=gk (k:=wi_ (k:=fun h5=>?_) (m:=fun h5=>?_)))
  ·have hbad:kZ fs ds=false:=by
    rw[hgd,Yr]
    intro h8
    have h7:=hck.1 h8
    have h9:=h5
    split at h7
    ·rename_i h6;rw[h6]at h9;exact h9 rfl
    ·omega
   refine gk (k:=rt_ Tryz.results50 (k:=?_))
   exact⟨_,hsb,by rw[hbad];all_goals rfl,rfl⟩
  have hz:gy fs vs=0:=by have h9:=h5;omega
  rw[if_pos hz]at hck
  refine go ?_
  refine ln_ ((i+1,d)) (k:=?_)
  try dsimp only
  exact⟨aa,aa,hck⟩
 obtain rfl:i=ds.length:=aa
 rw[List.drop_length,l7]at hck
 have hok:kZ fs ds=true:=by rw[hgd,Ys (hck.2 rfl)]
 refine gk (k:=rt_ Tryz.results50 (k:=?_))
 exact⟨_,hsb,by rw[hok];all_goals rfl,rfl⟩
theorem PZ {G:cK}{H:cG}{fv pv:SV}{fs:List FV}{lp:List (SV×SV)}{ps:List ja} [hf:Sl H fv eF fs] [hd:Sl H pv eP lp] (hpi:oS H lp ps) (hpl:ps.length≤1000000000) (hsm:∀p∈ps,SmD fs p.1) (hfl:fs.length≤1000000) (hfn:∀f∈fs,f.name.size≤1000000000):SC G Tryz.prog 23 [.agg [fv.val,pv.val].toArray] H (fun v H'=> v= .bool (rX fs ps)∧H'=H):=by
 have hll:=hpi.1
 refine sWk Tryz.func23 Tryz.ntmps23 ?_
 refine gk (k:=bxx (k:=fun b1=>?_))
 refine go ?_
 refine c1_ rfl (vk (fs:=fs) (aa) (fun f hf=> by have:=hfn f hf;omega)) (k:=?_)
 rintro _ _ ⟨c,rfl,hc,rfl⟩
 refine gk (k:=wi_ (k:=fun h1=>?_) (m:=fun h1=>?_))
 ·have hbad:rX fs ps=false:=by
   have h9:=h1
   rcases hc with⟨h8,_⟩|⟨_,h8⟩
   ·rw[rX,h8,Bool.false_and]
   ·exact absurd h8 h9
  refine gk (k:=rt_ Tryz.results23 (k:=?_))
  exact⟨_,hsb,by rw[hbad];all_goals rfl,rfl⟩
 have hcs:fI fs=true:=by
  have h9:=h1
  rcases hc with⟨_,h8⟩|⟨h8,_⟩
  ·exact absurd h8 (aa)
  ·exact h8
 have hft:rX fs ps=ps.all fun p=> kZ fs p.1:=by rw[rX,hcs,Bool.true_and]
 refine gk (k:=dt (Nat) (fun y=> y≤ps.length∧rX fs ps=(ps.drop y).all fun p=> kZ fs p.1) (fun y=> [(14, .int .i64 ((y:Nat):Int))]) [(1,_),(12,_),(13,_)] (fun y=> []) _ (fun y=> ps.length - y) (0) (h0:=?_) (k:=?_))
 ·try dsimp only
  exact⟨Yl _,hft⟩
 rintro i ⟨hi,hall⟩
 try dsimp only[Yd,Ye]at*
 refine gk (k:=wi_ (k:=fun h2=>?_) (m:=fun h2=>?_))
 ·obtain⟨p,d,l,hp,hd9,g1,g2,g3⟩:=hpi.get (i:=i) (aa)
  have hs:=hsm _ (Yj hd9)
  rw[dF hd9,List.all_cons]at hall
  refine wk_ (qn_ (ws_ (wb_ (ws_ (wr_ (e_ ixa (k:=e_ (jn (hy:=hp)) (k:=alc (k:=fun b5=>?_)))))))))
  refine go ?_
  refine d2_ rfl (M0 (ds:=d.1) (g2.less (hsb)) hs) (k:=gk (k:=wi_ (k:=fun h3=>?_) (m:=fun h3=>?_)))
  ·have hbad:rX fs ps=false:=by rw[hall,show kZ fs d.1=false from by have h9:=h3;simpa using h9,Bool.false_and]
   refine gk (k:=rt_ Tryz.results23 (k:=?_))
   exact⟨_,hsb,by rw[hbad];all_goals rfl,rfl⟩
  rw[show kZ fs d.1=true from by have h9:=h3;simpa using h9,Bool.true_and]at hall
  refine go ?_
  refine ln_ (i+1) (k:=?_)
  try dsimp only
  exact⟨aa,hall⟩
 obtain rfl:i=ps.length:=aa
 rw[List.drop_length,List.all_nil]at hall
 refine gk (k:=rt_ Tryz.results23 (k:=?_))
 exact⟨_,hsb,by rw[hall];all_goals rfl,rfl⟩
end Go.Sx
