import Derived.Test.YtcbidldebfibkaaGreatDoorQ36
set_option linter.unusedVariables false
set_option linter.unusedSimpArgs false
set_option linter.unusedSectionVars false
set_option linter.unnecessarySimpa false
set_option maxHeartbeats 0
namespace Go.Sx
open Go Go.Proofs
set_option maxRecDepth 100000
structure QG where
 sd:SV
 sb:SV
 zs:List DG
 fl:List Bool
 xs:List Nat
 dead:List Int
def qgH (g:QG):cG:= [Row g.sd eD (g.zs.map dgV),Cl dgH g.zs,Row g.sb eBo g.fl]
structure J2 (fs:List FV) (g:QG):Prop where
 len:g.fl.length=g.zs.length
 bits:∀k,k<g.zs.length→g.fl[k]? =some (decide (((k:Nat):Int)∈g.dead))
 inr:inR g.zs.length g.dead
 rise:rise g.dead=true
 seg:fM fs g.xs=some (g.zs.map dgD)
theorem zS {G:cM}{H:cG}{s:SV}{fs:List FV} [Sl H s eF fs] (hn:fs.length≤1000000000):SC G Tryz.prog 62 [.agg [s.val].toArray] H (fun v H'=> ∃s':SV,v= .agg [s'.val].toArray∧H'=Row s' eF fs::H):=by
 refine sWk Tryz.func62 Tryz.ntmps62 ?_
 refine gk (k:=bxx (k:=fun b1=>?_))
 refine alc (k:=fun b2=>?_)
 refine go ?_
 refine s_ (cZ eF rfl) (k:=?_)
 rintro _ _ ⟨s3,rfl,rfl⟩
 refine gk (k:=app (k:=fun s6=>?_))
 refine e_ (bld [(0,_)]) (k:=gk (k:=rt_ Tryz.results62 (k:=?_)))
 exact⟨_,hsb,s6,rfl,rfl⟩
theorem HE {G:cM}{H:cG}{s:SV}{fs:List FV} [Sl H s eF fs] (hc:e7 fs=true):SC G Tryz.prog 54 [.agg [s.val].toArray] H (fun v H'=> ∃be,∃s':SV,v= .tuple #[.pointer (some ⟨be,0,none⟩), .int .i64 0]∧H'=Vr be [s'.val, .int .i64 0,SV.nil.val,SV.nil.val, .bool true]::Row s' eF fs::H):=by
 obtain⟨hc1,hc2⟩:=eG hc
 refine sWk Tryz.func54 Tryz.ntmps54 ?_
 refine gk (k:=bxx (k:=fun b1=>?_))
 refine go ?_
 refine c1_ rfl (om (fs:=fs) (a8) (fun f hf=> aY)) (k:=?_)
 rintro _ _ ⟨c,rfl,hck,rfl⟩
 refine gk (k:=wi_ (k:=fun h1=>?_) (m:=fun h1=>?_))
 ·exact absurd h1 (ca)
 refine go ?_
 refine c1_ rfl (zS (a8)) (k:=?_)
 rintro _ _ ⟨s11,rfl,rfl⟩
 refine e_ (bld [(0,_),(4,_)]) (k:=bxx (k:=fun b13=>?_))
 refine gk (k:=rt_ Tryz.results54 (k:=?_))
 exact⟨_,hsb,b13,s11,rfl,rfl⟩
theorem Eg {G:cM}{H:cG}{sf s1 s2:SV}{nx la:Int}{fs:List FV}{xs:List Nat}{dl:List Int} [hf:Sl H sf eF fs] [hs:Sl H s1 eB xs] [hs2:Sl H s2 eI dl] (hc:e7 fs=true) (hn:xs.length≤2000000) (hb:∀x∈xs,x<256) (hdl:dl.length≤100000000):
 SC G Tryz.prog 55 [.agg [sf.val].toArray, .agg [s1.val,s2.val].toArray, .int .i64 la, .int .i64 nx] H (fun v H'=> (∃e,e<24∧fh fs la nx (xs,dl)= .error e∧v= .tuple #[.agg [SV.nil.val,SV.nil.val].toArray, .int .i64 (kG e)]∧H'=H)∨(∃g:QG,fh fs la nx (xs,dl)= .ok (g.zs.map dgD)∧g.xs=xs∧g.dead=dl∧J2 fs g∧v= .tuple #[.agg [g.sd.val,g.sb.val].toArray, .int .i64 0]∧H'=qgH g++H)):=by
 refine sWk Tryz.func55 Tryz.ntmps55 ?_
 refine gk (k:=bxx (k:=fun b4=>?_))
 refine bxx (k:=fun b5=>?_)
 refine alc (k:=fun b8=>?_)
 refine go ?_
 refine c2_ rfl (SC.mono (HM (xs:=xs) hc hn hb) (fun v H' h=> h)) (k:=?_)
 rintro _ _ (⟨hD,se,c,hne,rfl,rfl⟩|⟨zs,se,hD,rfl,rfl⟩)
 ·have hP:fh fs la nx (xs,dl)= .error 10:=by rw[fh,hD]
  refine go ?_
  refine wi_ (k:=fun h1=>?_) (m:=fun h1=>?_)
  ·refine ws_ (wr_ (e_ (bld []) (k:=gk (k:=rt_ Tryz.results55 (k:=?_)))))
   exact⟨_,hsb, .inl ⟨10,ag,hP,rfl,rfl⟩⟩
  exact absurd h1 hne
 have hfew:=sP hD
 have hP:fh fs la nx (xs,dl)=if lx (zs.map dgD) la=true then .error 5 else if lr (zs.map dgD) nx=true then .error 1 else if ¬inR (zs.map dgD).length dl then .error 1 else if rise dl=false then .error 5 else .ok (zs.map dgD):=by rw[fh,hD]
 have hzm:(zs.map dgV).length=zs.length:=Yh ..
 have hzd:(zs.map dgD).length=zs.length:=Yh ..
 rw[hzd]at hP
 rw[hzd]at hfew
 refine go ?_
 refine dw (k:=wk_ (qn_ (gG (Nat) (fun y=> lx (zs.map dgD) la=false) (fun y=> []) [9,27,28,29,30,31,32,33,34,35,36,37,38] ?_ ?_)))
 ·refine ws_ (wr_ (e_ mv (k:=e_ lnn (k:=e_ igt (k:=sp_ (mv) (k:=fun h2=>?_) (m:=fun h2=>?_))))))
  ·obtain⟨z0,hz0⟩:∃z,zs[0]? =some z:=⟨_,Yi (a8)⟩
   have hv0:(zs.map dgV)[0]? =some (z0.d,z0.s):=by rw[Xd,hz0];all_goals rfl
   have hH1:lx (zs.map dgD) la=decide (z0.d≤la):=by rw[lx,List.head?_map,List.head?_eq_getElem?,hz0];all_goals rfl
   refine eg_ mv (k:=eg_ (ixa (i:=0)) (k:=gk (k:=wi_ (k:=fun h3=>?_) (m:=fun h3=>?_))))
   ·have hP2:fh fs la nx (xs,dl)= .error 5:=by rw[hP,if_pos (by rw[hH1];exact Ys (a8))]
    refine ws_ (wr_ (e_ (bld []) (k:=gk (k:=jrE (rt_ Tryz.results55 (k:=?_))))))
    exact⟨_,hsb, .inl ⟨5,ag,hP2,rfl,rfl⟩⟩
   have hh1:lx (zs.map dgD) la=false:=by rw[hH1];exact Yr (a8)
   refine gk (k:=jnE (0) (q:=?_))
   exact hh1
  have hz0:zs= []:=List.eq_nil_of_length_eq_zero (a8)
  refine gk (k:=dw (k:=gk (k:=jnE (0) (q:=?_))))
  rw[hz0];all_goals rfl
 rintro u0 hh1
 try dsimp only[Yd,Ye]at*
 rw[if_neg (by rw[hh1];decide)]at hP
 refine gG (Nat) (fun y=> lr (zs.map dgD) nx=false) (fun y=> []) [9,39,40,41,42,43,44,45,46,47,48,49,50,51,52,53] ?_ ?_
 ·refine ws_ (wr_ (e_ mv (k:=e_ lnn (k:=e_ igt (k:=sp_ (mv) (k:=fun h4=>?_) (m:=fun h4=>?_))))))
  ·obtain⟨z1,hz1⟩:∃z,zs[zs.length - 1]? =some z:=⟨_,Yi (a8)⟩
   have hv1:(zs.map dgV)[(zs.map dgV).length - 1]? =some (z1.d,z1.s):=by rw[hzm,Xd,hz1];all_goals rfl
   have hH2:lr (zs.map dgD) nx=decide (nx≤z1.d):=by rw[lr,List.getLast?_map,List.getLast?_eq_getElem?,hz1];all_goals rfl
   refine gk (k:=wi_ (k:=fun h5=>?_) (m:=fun h5=>?_))
   ·have hP2:fh fs la nx (xs,dl)= .error 1:=by rw[hP,if_pos (by rw[hH2];exact Ys (a8))]
    refine ws_ (wr_ (e_ (bld []) (k:=gk (k:=jrE (rt_ Tryz.results55 (k:=?_))))))
    exact⟨_,hsb, .inl ⟨1,ag,hP2,rfl,rfl⟩⟩
   have hh2:lr (zs.map dgD) nx=false:=by rw[hH2];exact Yr (a8)
   refine gk (k:=jnE (0) (q:=?_))
   exact hh2
  have hz0:zs= []:=List.eq_nil_of_length_eq_zero (a8)
  refine gk (k:=dw (k:=go ?_))
  refine jnE (0) (q:=?_)
  rw[hz0];all_goals rfl
 rintro u1 hh2
 try dsimp only[Yd,Ye]at*
 rw[if_neg (by rw[hh2];decide)]at hP
 refine gk (k:=dn (Nat) (fun y=> y≤dl.length∧inR zs.length (dl.take y)) (fun y=> [(57, .int .i64 ((y:Nat):Int))]) [(5,_),(8,_),(10,_),(55,_),(56,_)] (fun y=> []) _ (fun y=> dl.length - y) (0) (h0:=?_) (k:=?_))
 ·try dsimp only
  exact⟨Yl _,fun x hx=> by simp at hx⟩
 rintro i ⟨hi,hin⟩
 try dsimp only[Yd,Ye]at*
 refine gk (k:=wi_ (k:=fun h6=>?_) (m:=fun h6=>?_))
 ·obtain⟨x,hx⟩:∃x,dl[i]? =some x:=⟨_,Yi (a8)⟩
  have htk:=cP hx
  refine go ?_
  refine gk (k:=dQ 5 68 (k:=fun h7=>gk (k:=edq)) (q:=gk (k:=wi_ (k:=fun h8=>?_) (m:=fun h8=>?_))))
  ·have hno:¬inR zs.length dl:=fun h9=> by have:=h9 x (Yj hx);omega
   have hP2:fh fs la nx (xs,dl)= .error 1:=by rw[hP,if_pos hno]
   refine ws_ (wr_ (e_ (bld []) (k:=gk (k:=rt_ Tryz.results55 (k:=?_)))))
   exact⟨_,hsb, .inl ⟨1,ag,hP2,rfl,rfl⟩⟩
  refine go ?_
  refine ln_ (i+1) (k:=?_)
  try dsimp only
  exact⟨a8,fun z hz=> by
   rw[htk]at hz
   rcases List.mem_append.1 hz with hz|hz
   ·exact hin z hz
   ·simp at hz;subst hz;omega⟩
 have hii:i=dl.length:=a8
 rw[hii,List.take_length]at hin
 rw[if_neg (fun h=> h hin)]at hP
 refine go ?_
 refine s_ (gD eBo false rfl rfl zs.length zs.length (by rw[hzm]) (by rw[hzm]) rfl (a8) (a8) (a8)) (k:=?_)
 rintro _ _ ⟨s74,rfl,h74n,h74c,rfl⟩
 refine e_ (bld [(0,_),(1,_)]) (k:=alc (k:=fun b14=>?_))
 refine gk (k:=dn (Nat×(List Bool)) (fun y=> y.1≤dl.length∧y.2.length=zs.length∧(∀k,k<zs.length→y.2[k]? =some (decide (((k:Nat):Int)∈dl.take y.1)))∧∀(j:Nat) (x z:Int),j+1<y.1→dl[j]? =some x→dl[j+1]? =some z→x<z) (fun y=> [(79, .int .i64 ((y.1:Nat):Int))]) [(5,_),(8,_),(14,_),(77,_),(78,_)] (fun y=> [Row s74 eBo y.2]) _ (fun y=> dl.length - y.1) ((0,List.replicate zs.length false)) (h0:=?_) (k:=?_))
 ·try dsimp only
  exact⟨Yl _,aj,fun k hk=> by rw[List.getElem?_replicate,if_pos hk];simp,fun j x z h=> a8⟩
 rintro⟨i,fl⟩ ⟨hi,hfl,hbt,hri⟩
 try dsimp only[Yd,Ye]at*
 refine gk (k:=wi_ (k:=fun h9=>?_) (m:=fun h9=>?_))
 ·obtain⟨x,hx⟩:∃x,dl[i]? =some x:=⟨_,Yi (a8)⟩
  have htk:=cP hx
  obtain⟨hx0,hxn⟩:=hin x (Yj hx)
  obtain⟨m,rfl⟩:=Int.eq_ofNat_of_zero_le hx0
  obtain⟨xp,hxp⟩:∃xp:Int,0<i→dl[i - 1]? =some xp:=by
   by_cases h9:0<i
   ·exact⟨_,fun _=> Yi (show i - 1<dl.length from a8)⟩
   ·exact⟨0,fun h=> absurd h h9⟩
  refine wk_ (qn_ (ws_ (wb_ (ws_ (wr_ (e_ mv (k:=e_ ixa (k:=e_ lel (k:=e_ asn (k:=e_ asn (k:=on_ (qn_ (ws_ (?_))))))))))))))
  refine ws_ (wr_ (e_ mv (k:=e_ igt (k:=e_ mv (k:=cY 9 95 (k:=fun h10=>eg_ fla (k:=eg_ ldv (k:=eg_ mv (k:=eg_ isb (k:=eg_ ixa (k:=eg_ (lel (hy:=hxp (a8))) (k:=eg_ mv (k:=eg_ ige (k:=e_ pkt (k:=on_ (edq))))))))))) (q:=on_ (qn_ (wi_ (k:=fun h11=>?_) (m:=fun h11=>?_)))))))))
  ·have hrf:rise dl=false:=by
    cases hr9:rise dl with
    |false=> rfl
    |true=> exact absurd ((gJ dl).1 hr9 (i - 1) xp ((m:Nat):Int) (hxp (a8)) (by rw[Nat.sub_add_cancel (a8)];exact hx)) (a8)
   have hP2:fh fs la nx (xs,dl)= .error 5:=by rw[hP,if_pos hrf]
   refine ws_ (wr_ (e_ (bld []) (k:=go ?_)))
   refine rt_ Tryz.results55 (k:=?_)
   exact⟨_,hsb, .inl ⟨5,ag,hP2,rfl,rfl⟩⟩
  refine go ?_
  refine s_ (fo (i:=m) rfl rfl rfl (a8)) (k:=?_)
  rintro _ _ ⟨rfl,rfl⟩
  refine go ?_
  refine ln_ ((i+1,fl.set m true)) (k:=?_)
  try dsimp only
  exact⟨a8,by rw[List.length_set];exact hfl,fun k hk=> by
   rw[htk,List.getElem?_set]
   by_cases hmk:m=k
   ·subst hmk;simp;omega
   ·rw[if_neg hmk,hbt k hk]
    have:((k:Nat):Int)≠((m:Nat):Int):=a8
    simp[this],fun j x z hj hx9 hz=> by
   by_cases hji:j+1<i
   ·exact hri j x z hji hx9 hz
   ·obtain rfl:j=i - 1:=by omega
    have h9:=hxp (a8)
    rw[Nat.sub_add_cancel (a8)]at hz
    rw[h9]at hx9;rw[hx]at hz
    cases hx9;cases hz;omega⟩
 have hii:i=dl.length:=a8
 rw[hii,List.take_length]at hbt
 have hrt:rise dl=true:=(gJ dl).2 fun j x z hx hz=> hri j x z (by have:=(Yk.1 hz).1;omega) hx hz
 rw[hrt,if_neg (ag)]at hP
 refine gk (k:=rt_ Tryz.results55 (k:=?_))
 exact⟨Row se eD (zs.map dgV)::Cl dgH zs::Row s74 eBo fl::H,hsb, .inr ⟨⟨se,s74,zs,fl,xs,dl⟩,hP,rfl,rfl,⟨hfl,hbt,hin,hrt,hD⟩,rfl,rfl⟩⟩
def qgV (g:QG):SV×SV:=(g.sd,g.sb)
def qgQ (g:QG):List Nat×List Int:=(g.xs,g.dead)
theorem Bc {l:List QG}(g:QG) {H:cG}:cK (Row g.sd eD (g.zs.map dgV)::Cl dgH g.zs::Row g.sb eBo g.fl::Cl qgH l::H) (Cl qgH (l++ [g])::H):=lW (f:=qgH) g
theorem u9 {e:Nat}(h:e<24):kG e≠0:=by
 have:∀k:Fin 24,kG k.val≠0:=ag
 exact this ⟨e,h⟩
theorem Jl {G:cM}{H:cG}{sf sp:SV}{fs:List FV}{lp:List (SV×SV)}{ps:Pcs}{n:Int} [hf:Sl H sf eF fs] [hsp:Sl H sp eP lp] (hP:iA H lp ps) (hc:e7 fs=true) (h0:0≤n) (h1:n≤1099511627776) (hpl:ps.length≤100000000) (hq:∀q∈ps,q.1.length≤2000000∧(∀x∈q.1,x<256)∧q.2.length≤100000000):
 SC G Tryz.prog 26 [.agg [sf.val, .int .i64 n,sp.val].toArray] H (fun v H'=> (∃i e,goE fs n 0 (-1) ps=some (i,e)∧e<24∧v= .tuple #[.pointer none, .int .i64 ((i:Nat):Int), .int .i64 (kG e)]∧H'=H)∨(goE fs n 0 (-1) ps=none∧∃(be:Nat) (s1 sh:SV) (gs:List QG),v= .tuple #[.pointer (some ⟨be,0,none⟩), .int .i64 (-1), .int .i64 0]∧gs.map qgQ=ps∧(∀g∈gs,J2 fs g)∧H'=Vr be [s1.val, .int .i64 n,sh.val,SV.nil.val, .bool true]::Row s1 eF fs::Row sh eP (gs.map qgV)::Cl qgH gs::H)):=by
 have hll:=hP.1
 refine sWk Tryz.func26 Tryz.ntmps26 ?_
 refine gk (k:=bxx (k:=fun b1=>?_))
 refine go ?_
 refine c1_ rfl (HE hc) (k:=?_)
 rintro _ _ ⟨be,s1,rfl,rfl⟩
 refine go ?_
 refine dw (k:=gk (k:=dQ 4 28 (k:=fun h1=>gk (k:=edq)) (q:=gk (k:=wi_ (k:=fun h2=>?_) (m:=fun h2=>?_)))))
 ·exfalso;omega
 refine wk_ (qn_ (ws_ (wr_ (e_ mv (k:=e_ fla (k:=e_ ldv (k:=e_ nck (k:=e_ fla (k:=sto (k:=on_ (qn_ (ws_ (wr_ (?_))))))))))))))
 refine e_ asn (k:=on_ (qn_ (ws_ (ws_ (wr_ (?_))))))
 refine dE (cK.nilRow (e:=eP) (eA (f:=qgH) cK.refl)) ?_
 rw[show Row SV.nil eP ([]:List (SV×SV))=Row SV.nil eP (([]:List QG).map qgV)from rfl]
 refine gk (k:=dn (Nat×Int×SV×(List QG)) (fun y=> y.1≤lp.length∧y.2.2.2.length=y.1∧y.2.2.2.map qgQ=ps.take y.1∧(∀g∈y.2.2.2,J2 fs g)∧goE fs n 0 (-1) ps=goE fs n y.1 y.2.1 (ps.drop y.1)) (fun y=> [(7, .int .i64 y.2.1),(37, .int .i64 ((y.1:Nat):Int))]) [(1,_),(5,_),(35,_),(36,_)] (fun y=> [Vr be [s1.val, .int .i64 n,y.2.2.1.val,SV.nil.val, .bool true],Row y.2.2.1 eP (y.2.2.2.map qgV),Cl qgH y.2.2.2]) (Row s1 eF fs::Vr b1 [sf.val, .int .i64 n,sp.val]::H) (fun y=> lp.length - y.1) ((0, -1,SV.nil, [])) (h0:=?_) (k:=?_))
 ·try dsimp only
  exact⟨Yl _,rfl,aj,fun h hh=> by simp at hh,by rw[List.drop_zero]⟩
 rintro⟨i,la,sh,gs⟩ ⟨hi,hhl,hhq,hho,hgo⟩
 try dsimp only[Yd,Ye]at*
 refine gk (k:=wi_ (k:=fun h3=>?_) (m:=fun h3=>?_))
 ·obtain⟨p,q,hpi,hqi,hs1,hs2⟩:=hP.at_ (i:=i) (a8)
  obtain⟨hq1,hq2,hq3⟩:=hq _ (Yj hqi)
  have hdr:=dV hqi
  have hhm:(gs.map qgV).length=gs.length:=Yh ..
  refine gk (k:=alc (k:=fun b9=>?_))
  refine go ?_
  refine di cL (fun i=> [8,12,13].contains i) (fun k H=> (k=3→dh H be [s1.val, .int .i64 n,sh.val,SV.nil.val, .bool true])∧(k=4→dh H b9 [p.1.val,p.2.val])∧(k=7→dh H b1 [sf.val, .int .i64 n,sp.val])) (af_ 0 (q:=cE fun H hH=>mv) (k:=af_ 1 (q:=cE fun H hH=>nck) (k:=af_ 2 (q:=cE fun H hH=>fla) (k:=?_))))
  refine cH 3 rfl rfl (aa) rfl (cE fun H hH=>aF) (?_)
  refine cH 4 rfl rfl (aa) rfl (cE fun H hH=>by have hN:=hH.2.1 rfl;exact lds) (?_)
  refine af_ 5 (q:=cE fun H hH=>mv) (k:=af_ 6 (q:=cE fun H hH=>fla) (k:=?_))
  refine cH 7 rfl rfl (aa) rfl (cE fun H hH=>c9) (?_)
  refine uO 8 12 rfl rfl (aa) rfl rfl (fun k hk=> ⟨fun hi=> ab,fun hi=> ab,fun hi=> ab⟩) (dm (vs:= [_,_,_,_]) rfl (Eg (fs:=fs) (xs:=q.1) (dl:=q.2) (nx:=n) hc hq1 hq2 hq3)) (kr) ?_ ?_
  ·rintro _ _ (⟨e,he,hE,rfl,rfl⟩|⟨g,hE,hx,hdd,hok,rfl,rfl⟩)
   ·have hgo2:goE fs n 0 (-1) ps=some (i,e):=by rw[hgo,hdr,goE,show fh fs la n q= .error e from hE]
    have hne:kG e≠0:=u9 he
    refine af_ 9 (q:=cE fun H hH=>mv) (k:=af_ 10 (q:=cE fun H hH=>exr) (k:=af_ 11 (q:=cE fun H hH=>exr) (k:=?_)))
    refine cQ 12 rfl (aa) rfl (fun k hk=> ⟨fun hi=> absurd hk (ad),fun hi=> absurd hk (ad),fun hi=> absurd hk (ad)⟩) (kr) ?_
    rintro _ _ ⟨b10,rfl,rfl⟩
    refine cQ 13 rfl (aa) rfl (fun k hk=> ⟨fun hi=> absurd hk (ad),fun hi=> absurd hk (ad),fun hi=> absurd hk (ad)⟩) (dk rfl rfl rfl) ?_
    rintro _ _ ⟨rfl,rfl⟩
    refine af_ 14 (q:=cE fun H hH=>asn) (k:=db (aa) (fun k hk=> ⟨fun hi=> absurd hk (ad),fun hi=> absurd hk (ad),fun hi=> absurd hk (ad)⟩) (gk (k:=wi_ (k:=fun h4=>?_) (m:=fun h4=>?_))))
    ·refine go ?_
     refine gk (k:=rt_ Tryz.results26 (k:=?_))
     exact⟨_,hsb, .inl ⟨i,e,hgo2,he,rfl,rfl⟩⟩
    exact absurd h4 hne
   simp only[qgH,Yd,Ye]
   have hgo2:goE fs n 0 (-1) ps=goE fs n (i+1) (jV la (g.zs.map dgD)) (ps.drop (i+1)):=by rw[hgo,hdr,goE,show fh fs la n q= .ok (g.zs.map dgD)from hE]
   have hzm:(g.zs.map dgV).length=g.zs.length:=Yh ..
   have hfew:=sP hok.seg
   have hzd:(g.zs.map dgD).length=g.zs.length:=Yh ..
   refine af_ 9 (q:=cE fun H hH=>mv) (k:=af_ 10 (q:=cE fun H hH=>exr) (k:=af_ 11 (q:=cE fun H hH=>exr) (k:=?_)))
   refine cQ 12 rfl (aa) rfl (fun k hk=> ⟨fun hi=> absurd hk (ad),fun hi=> absurd hk (ad),fun hi=> absurd hk (ad)⟩) (kr) ?_
   rintro _ _ ⟨b10,rfl,rfl⟩
   refine cQ 13 rfl (aa) rfl (fun k hk=> ⟨fun hi=> absurd hk (ad),fun hi=> absurd hk (ad),fun hi=> absurd hk (ad)⟩) (dk rfl rfl rfl) ?_
   rintro _ _ ⟨rfl,rfl⟩
   refine af_ 14 (q:=cE fun H hH=>asn) (k:=db (aa) (fun k hk=> ⟨fun hi=> absurd hk (ad),fun hi=> absurd hk (ad),fun hi=> absurd hk (ad)⟩) (gk (k:=dw (k:=wk_ (qn_ (gG (Int) (fun y=> y=jV la (g.zs.map dgD)) (fun y=> [(7, .int .i64 y)]) [7,58,59,60,61,62,63,64,65,66,67,68,69,70] ?_ ?_))))))
   ·refine gk (k:=wi_ (k:=fun h5=>?_) (m:=fun h5=>?_))
    ·obtain⟨z1,hz1⟩:∃z,g.zs[g.zs.length - 1]? =some z:=⟨_,Yi (a8)⟩
     have hv1:(g.zs.map dgV)[(g.zs.map dgV).length - 1]? =some (z1.d,z1.s):=by rw[hzm,Xd,hz1];all_goals rfl
     have hL:jV la (g.zs.map dgD)=z1.d:=by rw[jV,List.getLast?_map,List.getLast?_eq_getElem?,hz1];all_goals rfl
     refine gk (k:=jnE (z1.d) (q:=?_))
     exact hL.symm
    have hz0:g.zs= []:=List.eq_nil_of_length_eq_zero (a8)
    refine gk (k:=jnE (la) (q:=?_))
    rw[hz0];all_goals rfl
   rintro la2 hla2
   try dsimp only[Yd,Ye]at*
   refine di cL (fun i=> [6,7,10].contains i) (fun k H=> (k=4→dh H be [s1.val, .int .i64 n,sh.val,SV.nil.val, .bool true])∧(k=5→dh H b10 [g.sd.val,g.sb.val])) (af_ 0 (q:=cE fun H hH=>mv) (k:=af_ 1 (q:=cE fun H hH=>mv) (k:=af_ 2 (q:=cE fun H hH=>nck) (k:=af_ 3 (q:=cE fun H hH=>fla) (k:=?_)))))
   refine cH 4 rfl rfl (aa) rfl (cE fun H hH=>aD) (?_)
   refine cH 5 rfl rfl (aa) rfl (cE fun H hH=>cj) (?_)
   refine cQ 6 rfl (aa) rfl (fun k hk=> ⟨fun hi=> ab,fun hi=> ab⟩) (dW eP rfl rfl) ?_
   rintro _ _ ⟨s77,rfl,rfl⟩
   refine cQ 7 rfl (aa) rfl (fun k hk=> ⟨fun hi=> ab,fun hi=> absurd hk (ad)⟩) (ek rfl rfl rfl rfl (af) (af)) ?_
   rintro _ _ ⟨s78,rfl,rfl⟩
   refine af_ 8 (q:=cE fun H hH=>nck) (k:=af_ 9 (q:=cE fun H hH=>fla) (k:=?_))
   refine cQ 10 rfl (aa) rfl (fun k hk=> ⟨fun hi=> absurd hk (ad),fun hi=> absurd hk (ad)⟩) (dk rfl rfl rfl) ?_
   rintro _ _ ⟨rfl,rfl⟩
   rw[show gs.map qgV++ [(g.sd,g.sb)]=(gs++ [g]).map qgV from by simp[qgV]]
   refine db (aa) (fun k hk=> ⟨fun hi=> absurd hk (ad),fun hi=> absurd hk (ad)⟩) (bn_ (qn_ (wr_ (?_))))
   refine dE (cK.trans (H':=Row g.sd eD (g.zs.map dgV)::Cl dgH g.zs::Row g.sb eBo g.fl::Cl qgH gs::Vr be [s1.val, .int .i64 n,s78.val,SV.nil.val, .bool true]::Row s78 eP ((gs++ [g]).map qgV)::Row s1 eF fs::Vr b1 [sf.val, .int .i64 n,sp.val]::H) (hsb) (Bc g)) ?_
   refine go ?_
   refine ln_ ((i+1,la2,s78,gs++ [g])) (k:=?_)
   try dsimp only
   exact⟨a8,au,by rw[List.map_append,hhq,cP hqi];simp[qgQ,hx,hdd],fun x hx2=> by
    rcases List.mem_append.1 hx2 with hx2|hx2
    ·exact hho x hx2
    ·simp at hx2;subst hx2;exact hok,by rw[hgo2,hla2]⟩
  rintro _ _ ⟨b10,rfl,rfl⟩
  refine cQ 8 rfl (aa) rfl (fun k hk=> ⟨fun hi=> ab,fun hi=> ab,fun hi=> ab⟩) (dm (vs:= [_,_,_,_]) rfl (Eg (fs:=fs) (xs:=q.1) (dl:=q.2) (nx:=n) hc hq1 hq2 hq3)) ?_
  rintro _ _ (⟨e,he,hE,rfl,rfl⟩|⟨g,hE,hx,hdd,hok,rfl,rfl⟩)
  ·have hgo2:goE fs n 0 (-1) ps=some (i,e):=by rw[hgo,hdr,goE,show fh fs la n q= .error e from hE]
   have hne:kG e≠0:=u9 he
   refine af_ 9 (q:=cE fun H hH=>mv) (k:=af_ 10 (q:=cE fun H hH=>exr) (k:=af_ 11 (q:=cE fun H hH=>exr) (k:=?_)))
   refine cQ 13 rfl (aa) rfl (fun k hk=> ⟨fun hi=> absurd hk (ad),fun hi=> absurd hk (ad),fun hi=> absurd hk (ad)⟩) (dk rfl rfl rfl) ?_
   rintro _ _ ⟨rfl,rfl⟩
   refine af_ 14 (q:=cE fun H hH=>asn) (k:=db (aa) (fun k hk=> ⟨fun hi=> absurd hk (ad),fun hi=> absurd hk (ad),fun hi=> absurd hk (ad)⟩) (gk (k:=wi_ (k:=fun h6=>?_) (m:=fun h6=>?_))))
   ·refine go ?_
    refine gk (k:=rt_ Tryz.results26 (k:=?_))
    exact⟨_,hsb, .inl ⟨i,e,hgo2,he,rfl,rfl⟩⟩
   exact absurd h6 hne
  simp only[qgH,Yd,Ye]
  have hgo2:goE fs n 0 (-1) ps=goE fs n (i+1) (jV la (g.zs.map dgD)) (ps.drop (i+1)):=by rw[hgo,hdr,goE,show fh fs la n q= .ok (g.zs.map dgD)from hE]
  have hzm:(g.zs.map dgV).length=g.zs.length:=Yh ..
  have hfew:=sP hok.seg
  have hzd:(g.zs.map dgD).length=g.zs.length:=Yh ..
  refine af_ 9 (q:=cE fun H hH=>mv) (k:=af_ 10 (q:=cE fun H hH=>exr) (k:=af_ 11 (q:=cE fun H hH=>exr) (k:=?_)))
  refine cQ 13 rfl (aa) rfl (fun k hk=> ⟨fun hi=> absurd hk (ad),fun hi=> absurd hk (ad),fun hi=> absurd hk (ad)⟩) (dk rfl rfl rfl) ?_
  rintro _ _ ⟨rfl,rfl⟩
  refine af_ 14 (q:=cE fun H hH=>asn) (k:=db (aa) (fun k hk=> ⟨fun hi=> absurd hk (ad),fun hi=> absurd hk (ad),fun hi=> absurd hk (ad)⟩) (gk (k:=dw (k:=wk_ (qn_ (gG (Int) (fun y=> y=jV la (g.zs.map dgD)) (fun y=> [(7, .int .i64 y)]) [7,58,59,60,61,62,63,64,65,66,67,68,69,70] ?_ ?_))))))
  ·refine gk (k:=wi_ (k:=fun h7=>?_) (m:=fun h7=>?_))
   ·obtain⟨z1,hz1⟩:∃z,g.zs[g.zs.length - 1]? =some z:=⟨_,Yi (a8)⟩
    have hv1:(g.zs.map dgV)[(g.zs.map dgV).length - 1]? =some (z1.d,z1.s):=by rw[hzm,Xd,hz1];all_goals rfl
    have hL:jV la (g.zs.map dgD)=z1.d:=by rw[jV,List.getLast?_map,List.getLast?_eq_getElem?,hz1];all_goals rfl
    refine gk (k:=jnE (z1.d) (q:=?_))
    exact hL.symm
   have hz0:g.zs= []:=List.eq_nil_of_length_eq_zero (a8)
   refine gk (k:=jnE (la) (q:=?_))
   rw[hz0];all_goals rfl
  rintro la2 hla2
  try dsimp only[Yd,Ye]at*
  refine di cL (fun i=> [6,7,10].contains i) (fun k H=> (k=4→dh H be [s1.val, .int .i64 n,sh.val,SV.nil.val, .bool true])∧(k=5→dh H b10 [g.sd.val,g.sb.val])) (af_ 0 (q:=cE fun H hH=>mv) (k:=af_ 1 (q:=cE fun H hH=>mv) (k:=af_ 2 (q:=cE fun H hH=>nck) (k:=af_ 3 (q:=cE fun H hH=>fla) (k:=?_)))))
  refine cH 4 rfl rfl (aa) rfl (cE fun H hH=>aD) (?_)
  refine cH 5 rfl rfl (aa) rfl (cE fun H hH=>cj) (?_)
  refine cQ 6 rfl (aa) rfl (fun k hk=> ⟨fun hi=> ab,fun hi=> ab⟩) (dW eP rfl rfl) ?_
  rintro _ _ ⟨s77,rfl,rfl⟩
  refine cQ 7 rfl (aa) rfl (fun k hk=> ⟨fun hi=> ab,fun hi=> absurd hk (ad)⟩) (ek rfl rfl rfl rfl (af) (af)) ?_
  rintro _ _ ⟨s78,rfl,rfl⟩
  refine af_ 8 (q:=cE fun H hH=>nck) (k:=af_ 9 (q:=cE fun H hH=>fla) (k:=?_))
  refine cQ 10 rfl (aa) rfl (fun k hk=> ⟨fun hi=> absurd hk (ad),fun hi=> absurd hk (ad)⟩) (dk rfl rfl rfl) ?_
  rintro _ _ ⟨rfl,rfl⟩
  rw[show gs.map qgV++ [(g.sd,g.sb)]=(gs++ [g]).map qgV from by simp[qgV]]
  refine db (aa) (fun k hk=> ⟨fun hi=> absurd hk (ad),fun hi=> absurd hk (ad)⟩) (bn_ (qn_ (wr_ (?_))))
  refine dE (cK.trans (H':=Row g.sd eD (g.zs.map dgV)::Cl dgH g.zs::Row g.sb eBo g.fl::Cl qgH gs::Vr be [s1.val, .int .i64 n,s78.val,SV.nil.val, .bool true]::Row s78 eP ((gs++ [g]).map qgV)::Row s1 eF fs::Vr b1 [sf.val, .int .i64 n,sp.val]::H) (hsb) (Bc g)) ?_
  refine go ?_
  refine ln_ ((i+1,la2,s78,gs++ [g])) (k:=?_)
  try dsimp only
  exact⟨a8,au,by rw[List.map_append,hhq,cP hqi];simp[qgQ,hx,hdd],fun x hx2=> by
   rcases List.mem_append.1 hx2 with hx2|hx2
   ·exact hho x hx2
   ·simp at hx2;subst hx2;exact hok,by rw[hgo2,hla2]⟩
 have hii:i=ps.length:=a8
 rw[hii,List.drop_length,goE]at hgo
 rw[hii,List.take_length]at hhq
 refine go ?_
 refine rt_ Tryz.results26 (k:=?_)
 exact⟨_,hsb, .inr ⟨hgo,be,s1,sh,gs,rfl,hhq,hho,rfl⟩⟩
theorem Dx {G:cM}{H:cG}{b n c i t:Nat}{s:SV}{ws:List Nat}{dead:List Int} [qO H 25 tzT] [dh H b [.int .i64 ((n:Nat):Int), .int .i64 ((c:Nat):Int),s.val]] [hs:Sl H s eW ws] (hn:n≤1048576) (hl:ws.length=(n+63) / 64) (hw:okW ws) (hi:i≤n) (hbits:∀k:Nat,jJ ws k=decide (((k:Nat):Int)∈dead)) (hin:inR n dead) (hri:rise dead=true) (ht:t≤dead.length) (hlo:∀(j:Nat) (x:Int),dead[j]? =some x→(x<((i:Nat):Int)↔j<t)):
 SC G Tryz.prog 100 [.pointer (some ⟨b,0,none⟩), .int .i64 ((i:Nat):Int)] H (fun v H'=> ∃(iv:Int) (ok:Bool),v= .tuple #[.int .i64 iv, .bool ok]∧((ok=true∧dead[t]? =some iv)∨(ok=false∧t=dead.length))∧H'=H):=
 (JK hn hl hw hi).mono fun v H' ⟨h,hH⟩=> by
   have hat:∀x,dead[t]? =some x→∃m:Nat,x=((m:Nat):Int)∧i≤m∧m<n∧jJ ws m=true:=fun x hx=> by
    obtain⟨h1,h2⟩:=hin x (Yj hx)
    obtain⟨m,rfl⟩:=Int.eq_ofNat_of_zero_le h1
    have h3:=(hlo t _ hx)
    exact⟨m,rfl,a8,a8,by rw[hbits];exact Ys (Yj hx)⟩
   rcases h with⟨k,h1,h2,h3,rfl⟩|⟨h3,rfl⟩
   ·refine⟨_,true,rfl, .inl ⟨rfl,?_⟩,hH⟩
    rw[hbits]at h2
    obtain⟨j,hj⟩:=List.getElem?_of_mem (Yt h2)
    have hjt:=hlo j _ hj
    have hjl:=(Yk.1 hj).1
    obtain⟨x,hx⟩:∃x,dead[t]? =some x:=⟨_,Yi (a8)⟩
    obtain⟨m,rfl,m1,m2,m3⟩:=hat x hx
    have hkm:k≤m:=by
     by_cases h9:m<k
     ·rw[h3 m m1 h9]at m3;cases m3
     ·omega
    have hmk:m≤k:=by
     by_cases h9:t=j
     ·subst h9;rw[hx]at hj;cases hj;omega
     ·have:=sQ hri hx hj (a8);omega
    rw[hx,Nat.le_antisymm hkm hmk]
   ·refine⟨_,false,rfl, .inr ⟨rfl,?_⟩,hH⟩
    by_cases h9:t=dead.length
    ·exact h9
    ·obtain⟨x,hx⟩:∃x,dead[t]? =some x:=⟨_,Yi (a8)⟩
     obtain⟨m,rfl,m1,m2,m3⟩:=hat x hx
     rw[h3 m m1 m2]at m3;cases m3
theorem Dy {G:cM}{H:cG}{b n c:Nat}{s:SV}{ws:List Nat}{dead:List Int} [qO H 25 tzT] [dh H b [.int .i64 ((n:Nat):Int), .int .i64 ((c:Nat):Int),s.val]] [hs:Sl H s eW ws] (hn:n≤1048576) (hc:c≤100000000) (hl:ws.length=(n+63) / 64) (hw:okW ws) (hbits:∀k:Nat,jJ ws k=decide (((k:Nat):Int)∈dead)) (hin:inR n dead) (hri:rise dead=true) (hdl:dead.length≤100000000):
 SC G Tryz.prog 60 [.pointer (some ⟨b,0,none⟩)] H (fun v H'=> ∃s':SV,v=s'.val∧H'=Row s' eI dead::H):=by
 refine sWk Tryz.func60 Tryz.ntmps60 ?_
 refine go ?_
 refine s_ (gD eI 0 rfl rfl 0 c rfl rfl rfl (a8) (a8) (a8)) (k:=?_)
 rintro _ _ ⟨s10,rfl,h10n,h10c,rfl⟩
 refine go ?_
 refine c2_ rfl (Dx (t:=0) (i:=0) (dead:=dead) hn hl hw (Yl _) hbits hin hri (Yl _) (fun j x hx=> by have:=hin x (Yj hx);omega)) (k:=?_)
 rintro _ _ ⟨iv,ok,rfl,hnx,rfl⟩
 refine gk (k:=dn (Nat×SV×Int×Bool) (fun y=> y.1≤dead.length∧((y.2.2.2=true∧dead[y.1]? =some y.2.2.1)∨(y.2.2.2=false∧y.1=dead.length))) (fun y=> [(3,y.2.1.val),(4, .int .i64 y.2.2.1),(5, .bool y.2.2.2)]) [(0,_)] (fun y=> [Row y.2.1 eI (dead.take y.1)]) _ (fun y=> dead.length - y.1) ((0,s10,iv,ok)) (h0:=?_) (k:=?_))
 ·try dsimp only
  exact⟨Yl _,hnx⟩
 rintro⟨t,u,jv,ok2⟩ ⟨ht,hcur⟩
 try dsimp only[Yd,Ye]at*
 have htl:(dead.take t).length=t:=ax
 refine go ?_
 refine gk (k:=wi_ (k:=fun h1=>?_) (m:=fun h1=>?_))
 ·have hx:dead[t]? =some jv:=by rcases hcur with⟨_,h9⟩|⟨h9,_⟩;exact h9;exact absurd h1 (by rw[h9];decide)
  have htlt:=(Yk.1 hx).1
  obtain⟨hj0,hjn⟩:=hin jv (Yj hx)
  obtain⟨m,rfl⟩:=Int.eq_ofNat_of_zero_le hj0
  have htk:=cP hx
  refine gk (k:=dD eI (k:=fun s26=>?_))
  refine app (k:=fun s27=>?_)
  rw[←htk]
  refine go ?_
  refine c2_ rfl (Dx (t:=t+1) (i:=m+1) (dead:=dead) hn hl hw (a8) hbits hin hri (a8) (fun j x hx9=> by
   constructor
   ·intro h9
    by_cases h8:j<t+1
    ·exact h8
    ·have:=sQ hri hx hx9 (a8);omega
   ·intro h9
    by_cases h8:j=t
    ·subst h8;rw[hx]at hx9;cases hx9;omega
    ·have:=sQ hri hx9 hx (a8);omega)) (k:=?_)
  rintro _ _ ⟨iv2,ok3,rfl,hnx2,rfl⟩
  refine go ?_
  refine ln_ ((t+1,s27,iv2,ok3)) (k:=?_)
  try dsimp only
  exact⟨a8,hnx2⟩
 have htt:t=dead.length:=by rcases hcur with⟨h9,_⟩|⟨_,h9⟩;exact absurd (h9.symm.trans h1) (ag);exact h9
 rw[htt,List.take_length]
 refine gk (k:=rt_ Tryz.results60 (k:=?_))
 exact⟨_,hsb,u,rfl,rfl⟩
theorem Lm {G:cM}{H:cG}{s:SV}{xs:List Nat} [hs:Sl H s eB xs] (hne:xs≠ []) (hn:xs.length≤1000000000):SC G Tryz.prog 99 [s.val] H (fun v H'=> ∃s':SV,v=s'.val∧H'=Row s' eB xs::H):=by
 refine sWk Tryz.func99 Tryz.ntmps99 ?_
 refine ws_ (wr_ (e_ asn (k:=on_ (qn_ (ws_ (ws_ (wr_ (e_ mv (k:=?_)))))))))
 refine e_ (oX rfl hne) (k:=?_)
 refine gk (k:=ir_ (k:=fun h1=>?_) (m:=fun h1=>?_))
 ·cases h1
 refine go ?_
 refine s_ (cZ eB rfl) (k:=?_)
 rintro _ _ ⟨s5,rfl,rfl⟩
 refine gk (k:=app (k:=fun s7=>?_))
 rw[Ye]
 refine gk (k:=rt_ Tryz.results99 (k:=?_))
 exact⟨_,hsb,s7,rfl,rfl⟩
theorem BX {G:cM}{H:cG}{b:Nat}{v0 v1 v2 v3 v4:Value}{sa:SV}{xs:List Nat} [dh H b [v0,v1,v2,v3,v4,sa.val]] [hs:Sl H sa eB xs] (hne:xs≠ []) (hn:xs.length≤1000000000):SC G Tryz.prog 59 [.pointer (some ⟨b,0,none⟩)] H (fun v H'=> ∃s':SV,v=s'.val∧H'=Row s' eB xs::H):=by
 refine sWk Tryz.func59 Tryz.ntmps59 ?_
 refine go ?_
 refine c1_ rfl (Lm hne hn) (k:=?_)
 rintro _ _ ⟨s7,rfl,rfl⟩
 refine gk (k:=rt_ Tryz.results59 (k:=?_))
 exact⟨_,hsb,s7,rfl,rfl⟩
end Go.Sx
