import Derived.Test.YtcokhbglfaakjaaGreatDoorQ25
import Derived.Test.YtcokhbglfaakjaaGreatDoorQ22
set_option linter.all false
set_option maxHeartbeats 0
namespace Go.Sx
open Go Go.Proofs Tryz
set_option maxRecDepth 100000
section
variable {H:dD}{ds:List Doc}{fs:List FV}
structure DW (H:dD) (a:PtA) (fs:List FV) (ds:List Doc):Prop where
 g:dQ H a.g [a.fv.val,a.dv.val,a.lv.val,.pointer (some ⟨a.w,0,none⟩),a.bl.val,a.im.val]
 w:dQ H a.w [a.ev.val]
 fv:Sl H a.fv eF fs
 dv:Sl H a.dv eD a.l
 docs:gK H a.l ds
 lv:Sl H a.lv eSV a.lvs
 lens:a.lvs.length=fs.length∧∀i s,a.lvs[i]? =some s→Sl H s eI (dT (eL fs ds i))
 ev:Sl H a.ev eEn (j8 0 (eE (fU fs ds)))
 bl:Sl H a.bl eB (eV (eE (fU fs ds)))
theorem DW.less {H':dD}{a:PtA}(hs:dH H' H) (h:DW H a fs ds):DW H' a fs ds:=⟨lM hs h.g,lM hs h.w,ee hs h.fv,ee hs h.dv,h.docs.less hs,ee hs h.lv,⟨h.lens.1,λi s hi=>ee hs (h.lens.2 i s hi)⟩,ee hs h.ev,ee hs h.bl⟩
theorem n4 {F:dD}:dH (eU F::H) F:=λL hL=>by
 obtain⟨L1,L2,rfl,h1,_⟩:=tA hL;exact⟨L1,L2,h1,List.Perm.refl _⟩
theorem GJ {R:dD}{zs:List (SV×List Nat)}(hr:nR H (Cl lnH zs) R) (h:zs.map (·.2)=(List.range fs.length).map (eL fs ds)):(zs.map (·.1)).length=fs.length∧∀i s,(zs.map (·.1))[i]? =some s→Sl H s eI (dT (eL fs ds i)):=by
 have hl:zs.length=fs.length:=by have:=congrArg List.length h;simpa using this
 refine⟨by rw[Yh,hl],λi s hi=>?_⟩;rw[Xd]at hi;cases hz:zs[i]? with
 |none=>rw[hz]at hi;cases hi
 |some z=>
  rw[hz]at hi;cases hi;have h1:=congrArg (λl=>l[i]?) h;have hil:=(Yk.1 hz).1;simp only[Xd,hz,Ur (show i<fs.length from a8),Vs]at h1;have:=Ra hr hz;rw[Xk h1]at this;exact this
theorem RL {G:dJ}{fv s:SV} [hg:Glb G H] [Tab H 27 oc] [Tab H 25 mA] [hf:Sl H fv eF fs] [hs:Sl H s eB (Ck fs ds)] [Spc H] (hT:kh G) (hS:ot) (Z:sg fs ds=0) (L:dsz ds≤30000000) (R:(fU fs ds).length≤2000000) (hn:(Ck fs ds).length≤1000000000):
 SC G prog 47 [.agg #[fv.val],s.val] H (λv H'=>∃(a:PtA) (F:dD),DW F a fs ds∧v=.tuple #[pA a.g,.nilIface]∧H'=eU F::H):=by
 have p:=qg Z L R;have hc:=p.chk;obtain⟨a1,a0⟩:=jx hc;have b1:fs≠ []:=λh=>by rw[h]at a1;simp at a1
 have t:=p.blocks;have hb:∀x∈Ck fs ds,x<256:=Pr ae (λq y=>⟨(t.1 q y).2.1,(t.1 q y).2.2⟩);have M:mC 83 (Ck fs ds)=some (oC fs ds):=Eu ae ae (by simp[oC]) (λq y=>by
  obtain⟨a,b,c⟩:=t.1 q y;have:=uj y;exact⟨a,b,c,by have:=t.2.1;omega⟩)
 have Y:=Dt p;have E:=p.few;have hsB:=kX (fs:=fs) (ds:=ds) a8 p.q;have hiB:(pU ds).length≤10*4096+6:=by
  have h7:=rB (l:=ds.map (·.1)) p.pos (λx hx=>by obtain⟨d,hd,rfl⟩:=Xt.1 hx;have:=p.ids d hd;omega);rw[Yh]at h7;have h8:=gb (n:=ds.length) (k:=6) a8 a8;rw[pU,Ya];omega
 refine sWk func47 ?_;refine gk (k:=bxx (k:=λb2=>?_));refine go ?_;refine c1_ rfl (AF (fs:=fs) a8 (λf hf=>by have:=(a0 f hf).1;omega)) ?_;rintro _ _ ⟨rfl,(⟨a2,rfl⟩|⟨a2,rfl⟩)⟩
 ·exact absurd a2 (by rw[hc];decide)
 refine e_ asn (on_ (qn_ (ws_ (wr_ (e_ mv ?_)))));refine e_ (dL rfl) ?_;refine gk (k:=fM (k:=go ?_));refine c2_ rfl (PA 83 ae a8 hb) ?_;rintro _ _ (⟨hr,rfl,e,rfl⟩|⟨bl,w,F0,j,hr,hB,rfl,rfl⟩)
 ·rw[M]at hr;cases hr
 rw[M]at hr;obtain rfl:=Xk hr;have y:=a0e hb M;have hlb:=hB.1;have A:(oC fs ds).length=6:=rfl;refine e_ mv (e_ exr (e_ exr (e_ asn (e_ asn (on_ (qn_ (ws_ (ws_ (wr_ (e_ mv ?_))))))))));refine e_ (dL rfl) ?_;refine gW (λh1=>?_) λh1=>?_
 ·exact absurd h1 a8
 obtain⟨p1,q1,hp1,V,a9⟩:=hB.at6 (i:=1) (by rw[A];decide);obtain⟨p3,q3,hp3,U,a7⟩:=hB.at6 (i:=3) (by rw[A];decide);obtain⟨p4,q4,hp4,b0,S⟩:=hB.at6 (i:=4) (by rw[A];decide);obtain⟨p5,q5,hp5,T,a6⟩:=hB.at6 (i:=5) (by rw[A];decide);obtain⟨a4,b4⟩:=y _ (Yj V);obtain⟨hb3,X⟩:=y _ (Yj U);obtain⟨a3,b3⟩:=y _ (Yj T);obtain rfl:(2,pU ds)=q1:=Xk V;obtain rfl:(4,iC (j8 0 (eE (fU fs ds))))=q3:=Xk U;obtain rfl:(5,eV (eE (fU fs ds)))=q4:=Xk b0;obtain rfl:(6,gm fs ds)=q5:=Xk T;simp only at a9 a7 S a6 a4 a3 b4 X b3;refine go ?_;refine wD [9] (λk H=>(k=0→dQ H b2 [fv.val])∧(k=2→Sl H j eK w)∧(k=3→Sl H j eK w)∧(k=4→Sl H j eK w)∧(k=6→Sl H j eK w)∧(k=7→Sl H j eK w)∧(k=8→Sl H j eK w)) ?_;refine aN 0 rfl (λH hH=>aX) ?_;refine aF 1 (k:=?_);refine aN 2 rfl (λH hH=>by have hN:=hH.2.1 rfl;exact ixa (i:=1)) ?_;refine aN 3 rfl (λH hH=>by have hN:=hH.2.2.1 rfl;exact fle) ?_;refine aN 4 rfl (λH hH=>by have hN:=hH.2.2.2.1 rfl;exact lfl) ?_;refine aF 5 (k:=?_);refine aN 6 rfl (λH hH=>by have hN:=hH.2.2.2.2.1 rfl;exact ixa (i:=5)) ?_;refine aN 7 rfl (λH hH=>by have hN:=hH.2.2.2.2.2.1 rfl;exact fle) (go ?_);refine aS 9 rfl (lU (vs:= [_,_,_]) rfl (Wi (ids:=pU ds) (body:=gm fs ds) hc a8 a8 a4 a3)) ?_;rintro _ _ (⟨hd,m,rfl,rfl⟩|⟨zs,m,hd,rfl,rfl⟩)
 ·rw[Y]at hd;cases hd
 rw[Y]at hd;obtain rfl:=Xk hd;have hzm:(zs.map dgV).length=zs.length:=Yh ..;have hk2:∀d∈zs.map dgD,d.2.length≤64∧∀v∈d.2,v.2.size≤4096:=λd hd=>by
  obtain⟨g1,g2⟩:=np (p.vals d hd);exact⟨g1,λv hv=>(g2 v hv).1⟩
 have hfew2:zs.length≤4096:=by rw[Yh]at E;exact E
 refine gk (k:=aZ (go ?_));refine fM (k:=go ?_);refine c2_ rfl (JY (ds:=zs.map dgD) hT hS (yr (zs:=zs) inferInstance) a8 (λf hf=>by have:=(a0 f hf).1;omega) a8 (λd hd=>⟨dz,λv hv=>by have:=(hk2 d hd).2 v hv;omega⟩) L R) ?_;rintro _ _ (⟨J,u,rfl,rfl⟩|⟨J,ke,hke,rfl,rfl⟩)
 ·refine e_ mv (e_ exr (e_ exr (e_ asn (e_ asn (on_ (qn_ (ws_ (ws_ (wr_ (e_ mv ?_))))))))));refine e_ (dL rfl) (go ?_);refine sg_ (v2_ (Qj hb hb)) (k:=?_);rintro _ _ ⟨rfl,rfl⟩;refine gW (λh2=>?_) λh2=>?_
  ·exact absurd h2 aq
  have hrl:=tJ (fU fs (zs.map dgD));have hdl:(iC (j8 0 (eE (fU fs (zs.map dgD))))).length≤1000000000:=Xi X hn;refine wk_ (qn_ (ws_ (wr_ (e_ mv (e_ (ixa (i:=3)) (go ?_))))));refine c1_ rfl (HR (l:=j8 0 (eE (fU fs (zs.map dgD)))) t.2.2.1 (by rw[ka];omega) hdl) ?_;rintro _ _ ⟨N,r,rfl,rfl⟩;refine e_ mv (e_ exr (e_ exr (e_ asn (e_ asn (on_ (qn_ (ws_ (ws_ (wr_ (e_ mv ?_))))))))));refine e_ (dL rfl) ?_;refine gk (k:=fM (k:=go ?_));refine c1_ rfl (MJ (fs:=fs) b1 a8) ?_;rintro _ _ ⟨g,rfl,rfl⟩;refine e_ (bld [(0,_)]) (alc (k:=λa5=>?_));refine go ?_;refine wD [4,7,15] (λk H=>(k=0→dQ H a5 [g.val])∧(k=2→dQ H a5 [g.val])∧(k=10→Sl H j eK w)∧(k=11→Sl H j eK w)∧(k=12→Sl H j eK w)) ?_;refine aN 0 rfl (λH hH=>aX) ?_;refine aF 1 (k:=?_);refine aN 2 rfl (λH hH=>by have hN:=hH.2.1 rfl;exact lds) ?_;refine aF 3 (k:=aF 8 (k:=aF 9 (k:=?_)));refine aN 10 rfl (λH hH=>by have hN:=hH.2.2.1 rfl;exact ixa (i:=4)) ?_;refine aN 11 rfl (λH hH=>by have hN:=hH.2.2.2.1 rfl;exact fle) ?_;refine aN 12 rfl (λH hH=>by have hN:=hH.2.2.2.2 rfl;exact lfl) ?_;refine aF 13 (k:=?_);refine aS 4 rfl (lU (vs:= [_,_]) rfl (G5 (ds:=zs.map dgD) hT (yr (zs:=zs) inferInstance) a8 a8 (λd hd=>⟨dz,λv hv=>by have:=(hk2 d hd).2 v hv;omega⟩) L)) ?_;rintro _ _ ⟨gg,K,rr,C,rfl,hzz,rfl⟩;haveI:=S;refine aF 5 (k:=aF 6 (k:=?_));refine aS 7 rfl (Ev.st ldv) ?_;rintro _ _ ⟨rfl,rfl⟩;refine af_ 14 (q:=ea λH hH=>bld [(0,_),(1,_),(2,_),(3,_),(4,_),(5,_)]) (k:=?_);refine aS 15 rfl (x9 rfl) ?_;rintro _ _ ⟨B,rfl,rfl⟩;refine gk (k:=aZ (gR ?_));refine⟨_,?_,⟨0,B,0,N,g,m,K,r,p4.2,u,SV.nil,0,zs.map dgV,C.map λz:SV×List Nat=>z.1⟩, [Vr B [g.val,m.val,K.val,pA N,p4.2.val,u.val],Row g eF fs,Row m eD (zs.map dgV),Cl dgH zs,Row K eSV (C.map λz:SV×List Nat=>z.1),Cl lnH C,Vr N [r.val],Row r eEn (j8 0 (eE (fU fs (zs.map dgD)))),eU F0],⟨inferInstance,inferInstance,inferInstance,inferInstance,yr (zs:=zs) inferInstance,inferInstance,GJ (zs:=C) inferInstance hzz,inferInstance,inferInstance⟩,rfl,rfl⟩;exact dH.trans (H':=Vr B [g.val,m.val,K.val,pA N,p4.2.val,u.val]::Row g eF fs::Row m eD (zs.map dgV)::Cl dgH zs::Row K eSV (C.map λz:SV×List Nat=>z.1)::Cl lnH C::Vr N [r.val]::Row r eEn (j8 0 (eE (fU fs (zs.map dgD))))::eU F0::H) hsb (dH.star (F:= [Vr B [g.val,m.val,K.val,pA N,p4.2.val,u.val],Row g eF fs,Row m eD (zs.map dgV),Cl dgH zs,Row K eSV (C.map λz:SV×List Nat=>z.1),Cl lnH C,Vr N [r.val],Row r eEn (j8 0 (eE (fU fs (zs.map dgD)))),eU F0]) dH.refl)
 exact absurd Z J
end
section
variable {a:PtA}{ds:List Doc}{fs:List FV}
theorem wZ {G:dJ}{H:dD}{s:SV} [Sl H s eF fs] (hn:fs.length≤1000000000):SC G prog 22 [.agg #[s.val]] H (λv c=>∃a:SV,v=.agg #[a.val]∧c=Row a eF fs::H):=by
 refine sWk func22 ?_;refine gk (k:=bxx (k:=λb1=>?_));refine alc (k:=λb2=>?_);refine go ?_;refine s_ (fk eF rfl) ?_;rintro _ _ ⟨s3,rfl,rfl⟩;refine gk (k:=app (k:=λb=>?_));refine e_ (bld [(0,_)]) (gR ?_);exact⟨_,hsb,b,rfl,rfl⟩
theorem JW {G:dJ}{H:dD}{dv:SV}{l:List (Int×SV)} [hd:Sl H dv eD l] (g:gK H l ds) (hn:ds.length≤1000000) (hv:∀d∈ds,d.2.length≤1000000):SC G prog 23 [dv.val] H (λv H'=>∃(s':SV) (zs:List DG),zs.map dgD=ds∧v=s'.val∧H'=Row s' eD (zs.map dgV)::Cl dgH zs::H):=by
 have hll:=g.1;refine sWk func23 ?_;refine go ?_;refine s_ (fk eD rfl) ?_;rintro _ _ ⟨m,rfl,rfl⟩;refine e_ asn (on_ (qn_ (ws_ (ws_ (wr_ ?_)))));refine eu (ga (f:=dgH) dH.refl) ?_;refine gk (k:=e8 (Nat×SV×(List DG)) (λy=>y.1≤ds.length∧y.2.2.map dgD=ds.take y.1) (λy=>[(3,y.2.1.val),(9,iN y.1)]) [(7,_),(8,_)] (λy=>[Row y.2.1 eD (y.2.2.map dgV),Cl dgH y.2.2]) _ (λy=>ds.length-y.1) ((0,m, [])) (h0:=?_) (k:=?_))
 ·exact⟨Yl _,rfl⟩
 rintro⟨i,u,zs⟩ ⟨hi,hzs⟩
 try dsimp only[Yd,Ye]at*
 refine gW (λh1=>?_) λh1=>?_
 ·obtain⟨d,h,b,hl,e,hsv⟩:=g.get (i:=i) a8;have hvl:b.length≤1000000:=hv _ (Yj e);have hzl:(zs.map dgV).length≤1000000:=cy;refine wk_ (qn_ (ws_ (wb_ (ws_ (wr_ (e_ ixa (e_ (gr (hy:=hl)) (alc (k:=λj=>?_)))))))));refine go ?_;refine wD [3,6,8,9] (λk H=>(k=2→dQ H j [.int .i64 d,h.val])∧(k=5→dQ H j [.int .i64 d,h.val])) (aF 0 (k:=aF 1 (k:=?_)));refine aN 2 rfl (λH hH=>ah) ?_;refine aF 4 (k:=?_);refine aN 5 rfl (λH hH=>aM) ?_;refine aS 3 rfl (fk eVl rfl) ?_;rintro _ _ ⟨s16,rfl,rfl⟩;refine aS 6 rfl (gf rfl rfl rfl rfl ab ab) ?_;rintro _ _ ⟨a,rfl,rfl⟩;refine af_ 7 (q:=ea λH hH=>bld [(0,_),(1,_)]) (k:=?_);refine aS 8 rfl (fK eD rfl rfl) ?_;rintro _ _ ⟨s21,rfl,rfl⟩;refine aS 9 rfl (gf rfl rfl rfl rfl ab ab) ?_;rintro _ _ ⟨c,rfl,rfl⟩;refine gk (k:=aZ (bn_ (qn_ (wr_ ?_))));refine eu (H':=Row c eD ((zs++ [(⟨d,a,b⟩:DG)]).map dgV)::Cl dgH (zs++ [(⟨d,a,b⟩:DG)])::H) (dH.trans (H':=Row a eVl b::Cl dgH zs::Row c eD ((zs++ [(⟨d,a,b⟩:DG)]).map dgV)::H) (by rw[Xp];exact hsb) ((Hg ⟨d,a,b⟩).trans hsb)) ?_;refine go ?_;refine lN ((i+1,c,zs++ [(⟨d,a,b⟩:DG)])) ?_
  try dsimp only
  exact⟨a8,by rw[Xp,hzs,dK e];all_goals rfl⟩
 obtain rfl:i=ds.length:=a8;rw[Xn]at hzs;refine gR ?_;exact⟨_,hsb,u,zs,hzs,rfl,rfl⟩
def yu (n:Nat) (dead:List Int) (ws:List Nat):Prop:=ws.length=(n+63)/64∧okW ws∧(dead= []→ws=List.replicate ((n+63)/64) 0)∧∀j:Nat,j<n→l8 ws j=decide (((j:Nat):Int)∈dead)
theorem OT {H:dD}{p d cnt:Nat}{b:SV}{ws:List Nat}(hs:DW H a fs ds) (hp:dQ H p [pA a.g,pA d]) (hd:dQ H d [iN ds.length,iN cnt,b.val]) (c:Sl H b eW ws):eN H {a with p:=p,d:=d,ws:=b,cnt:=cnt} ⟨fs,ds,ws⟩:=
 ⟨hp,hs.g,hd,hs.w,hs.fv,hs.dv,hs.docs,hs.lv,hs.lens,hs.ev,hs.bl,c⟩
theorem eN.star {F H:dD}{q:PtD}(h:eN F a q):eN (eU F::H) a q:=h.less n4
section
variable {G:dJ}{P:Program}{N:Nat}{Q:Go.Sx.Post}{t:Tm}{H:dD}{ops:Array Oper}{l:List Oper}
theorem Tc {R:dD}(b:Nat) {p:DsG} [hr:Rem H Ds b p R] (h:∀s:SV,O G P N ops l Q t (Vr b [iN p.n,iN p.c,s.val]::Row s eW p.ws::R)):O G P N ops l Q t H:=
 ⟨λa w ha c=>let ⟨s,hs⟩:=pI (K:=Ds) rfl hr c;(h s).go a w ha hs⟩
end
theorem MP {n j:Nat}:l8 (List.replicate n 0) j=false:=by
 rw[l8,Xj,S2]
 split <;> simp
theorem QE {G:dJ}{H:dD}{fv dv xv:SV}{l:List (Int×SV)}{dead:List Int} [hg:Glb G H] [Tab H 27 oc] [Tab H 25 mA] [hf:Sl H fv eF fs] [hd:Sl H dv eD l] [hx:Sl H xv eI dead] [Spc H] (hT:kh G) (Z:ot) (K:gK H l ds) (C:sg fs ds=0) (u:dsz ds≤30000000) (A:(fU fs ds).length≤2000000) (hn:(Ck fs ds).length≤1000000000) (hxl:dead.length≤1000000000):
 SC G prog 19 [.agg #[fv.val],.agg #[dv.val,xv.val]] H (λv H'=>∃(pt:PtA) (ws:List Nat) (F:dD),yu ds.length dead ws∧eN F pt ⟨fs,ds,ws⟩∧v=pA pt.p∧H'=eU F::H):=by
 have B:=qg C u A;have hc:=B.chk;obtain⟨hc1,Y⟩:=jx hc;have hfew:=B.few;have X:=K.1;have hk2:∀d∈ds,d.2.length≤64∧∀v∈d.2,v.2.size≤4096:=λd hd=>by
  obtain⟨g1,g2⟩:=np (B.vals d hd);exact⟨g1,λv hv=>(g2 v hv).1⟩
 refine sWk func19 ?_;refine ws_ (wr_ (bxx (k:=λb2=>?_)));refine bxx (k:=λb3=>?_);refine e_ asn (on_ (qn_ (ws_ ?_)));refine wD [1,4,5] (λk H=>(k=0→dQ H b2 [fv.val])∧(k=3→dQ H b3 [dv.val,xv.val])) ?_;refine aN 0 rfl (λH hH=>aX) ?_;refine aF 2 (k:=?_);refine aN 3 rfl (λH hH=>aM) ?_;refine aS 1 rfl (lU (vs:= [_]) rfl (wZ a8)) ?_;rintro _ _ ⟨s14,rfl,rfl⟩;refine aS 4 rfl (lU (vs:= [_]) rfl (JW (ds:=ds) (K.less hsb) a8 (λd hd=>dz))) ?_;rintro _ _ ⟨s17,zs,hzs,rfl,rfl⟩;refine aS 5 rfl (lU (vs:= [_,_]) rfl (JY (ds:=ds) hT Z bR a8 (λf hf=>by have:=(Y f hf).1;omega) a8 (λd hd=>⟨dz,λv hv=>by have:=(hk2 d hd).2 v hv;omega⟩) u A)) ?_;rintro _ _ (⟨t,s51,rfl,rfl⟩|⟨t,ke,hke,rfl,rfl⟩)
 ·refine aF 6 (k:=aF 7 (k:=aF 8 (k:=aF 9 (k:=aF 10 (k:=aZ (qn_ (ws_ (ws_ (wr_ (e_ mv ?_))))))))));refine e_ (dL rfl) ?_;refine on_ (qn_ (fM (k:=wk_ (qn_ (ws_ (wr_ (e_ lds ?_)))))));refine c1_ rfl (wZ a8) ?_;rintro _ _ ⟨s25,rfl,rfl⟩;refine e_ mv ?_;refine c2_ rfl (RL (ds:=ds) hT Z C u A hn) ?_;rintro _ _ ⟨g,M,h,rfl,rfl⟩;refine e_ mv (e_ exr (e_ exr (e_ asn (e_ asn (on_ (qn_ (ws_ (ws_ (wr_ (e_ mv ?_))))))))));refine e_ (dL rfl) ?_;refine e_ mv (eg_ mv ?_);refine eg_ (gu rfl) ?_;refine e_ pkf (on_ (qn_ (wi_ (k:=λh1=>?_) (m:=λh1=>?_))))
  ·exact absurd h1 aq
  refine wk_ (qn_ (ws_ (wr_ (e_ fla (e_ ldv ?_)))));refine e_ (evq lnn (congrArg (λn:Nat=>iN n) X)) ?_;refine c1_ rfl (NK (n:=ds.length) a8) ?_;rintro _ _ ⟨bs,rfl,rfl⟩;refine e_ mv (e_ exr (e_ exr (e_ asn (e_ asn (on_ (qn_ (ws_ (ws_ (wr_ (e_ mv ?_))))))))));refine e_ (dL rfl) ?_;refine e_ mv (eg_ mv ?_);refine eg_ (gu rfl) ?_;refine e_ pkf (on_ (qn_ (wi_ (k:=λh2=>?_) (m:=λh2=>?_))))
  ·exact absurd h2 aq
  refine wk_ (qn_ (ws_ (ws_ (wr_ (e_ fla (e_ ldv (e_ lnn (e_ mv (on_ (qn_ (wb_ (e8 (Nat×Nat×(List Nat)) (λy=>y.1≤dead.length∧y.2.1≤y.1∧y.2.2.length=(ds.length+63)/64∧okW y.2.2∧(y.1=0→y.2.2=List.replicate ((ds.length+63)/64) 0)∧∀j:Nat,j<ds.length→l8 y.2.2 j=decide (((j:Nat):Int)∈dead.take y.1)) (λy=>[(52,iN y.1)]) [(3,_),(7,_),(8,_),(50,_),(51,_)] (λy=>[Ds bs ⟨ds.length,y.2.1,y.2.2⟩]) _ (λy=>dead.length-y.1) ((0,0,List.replicate ((ds.length+63)/64) 0)) (h0:=?_) (k:=?_)))))))))))))
  ·try dsimp only
   exact⟨Yl _,Xl _,by rw[Xe],λx hx=>by rw[List.mem_replicate]at hx;omega,λ_=>rfl,λj _=>by rw[MP];simp⟩
  rintro⟨i,c,ws⟩ ⟨hi,hci,z,w,U,r⟩
  try dsimp only[Yd,Ye]at*
  refine ws_ (wr_ (e_ ilt (on_ (qn_ (ws_ (wi_ (k:=λh3=>?_) (m:=λh3=>?_)))))))
  ·obtain⟨e,he⟩:=gE dead i;refine wk_ (qn_ (ws_ (wb_ (ws_ (wr_ (e_ ixa (e_ (lel (hy:=he)) (e_ asn (on_ (qn_ (ws_ (wr_ (e_ mv ?_)))))))))))));refine e_ ige (e_ mv (dV 6 64 (k:=λh4=>eg_ mv (eg_ fla (eg_ ldv (eg_ lnn (eg_ ilt (e_ pkt (on_ edq))))))) (q:=on_ (qn_ (wi_ (k:=λh5=>?_) (m:=λh5=>?_))))))
   ·have hin:=h5;refine wr_ (e_ mv (e_ mv ?_));refine c2_ rfl (Zr a8 a8 z w) ?_;rintro _ _ (⟨ho,rfl,rfl⟩|⟨h01,h02,xx,c',S,rfl,rfl,hc',hwl',J,E⟩)
    ·exact absurd ho a8
    refine on_ (bn_ (qn_ (wr_ (e_ iad (e_ mv (on_ ?_))))));refine lN ((i+1,c',S)) ?_
    try dsimp only
    exact⟨a8,a8,a8,J,λh9=>a8,λj hj=>by rw[E,r j hj,dK he];simp[Bool.or_comm]⟩
   refine wk_ (bn_ (qn_ (wr_ (e_ iad (e_ mv (on_ ?_))))));refine lN ((i+1,c,ws)) ?_
   try dsimp only
   exact⟨a8,a8,z,w,λh9=>a8,λj hj=>by
   have h8:=h5;rw[r j hj,dK he];have V:¬((j:Nat):Int)=e:=λN=>by subst N;simp at h8;omega
   simp[V]⟩
  obtain rfl:i=dead.length:=a8;rw[Xn]at r;refine we_ (qe_ (le_ (bh_ (qn_ (ws_ (wr_ ?_))))));refine Tc bs (λT=>?_);haveI hq1:∀L,dQ (eU M::L) g.g [g.fv.val,g.dv.val,g.lv.val,pA g.w,g.bl.val,g.im.val]:=λL=>lM n4 h.g;haveI hq2:∀L,Sl (eU M::L) g.dv eD g.l:=λL=>ee n4 h.dv;refine e_ mv (e_ mv ?_);refine c2_ rfl (JQ (dv:=.nilIface) (n:=ds.length) (c:=c) (s:=T) (ws:=ws) a8 h.docs.1) ?_;rintro _ _ ⟨R,b,a,rfl,rfl⟩;refine e_ mv (e_ exr (e_ exr (e_ asn (e_ asn (on_ (qn_ (ws_ (ws_ (wr_ (e_ mv ?_))))))))));refine e_ (dL rfl) ?_;refine e_ mv (eg_ mv ?_);refine eg_ (gu rfl) ?_;refine e_ pkf (e_ mv (ep 6 87 (k:=λh6=>eg_ mv (eg_ nck (eg_ fla (eg_ ldv (eg_ (gu rfl) (e_ pkf (on_ edq))))))) (q:=on_ (qn_ (wi_ (k:=λN=>?_) (m:=λN=>?_))))))
  ·exact absurd N aq
  refine wk_ (qn_ (ws_ (wr_ (e_ mv (e_ asn (on_ (qn_ (wt_ (rT (k:=?_))))))))));refine⟨_,?_,{g with p:=R,d:=b,ws:=a,cnt:=c},ws, [eU M,Vr R [pA g.g,pA b],Vr b [iN ds.length,iN c,a.val],Row a eW ws],⟨z,w,λh9=>U (by rw[h9];all_goals rfl),r⟩,OT (h.less n4) inferInstance inferInstance inferInstance,rfl,rfl⟩;exact dH.trans (H':=eU M::Vr R [pA g.g,pA b]::Vr b [iN ds.length,iN c,a.val]::Row a eW ws::H) hsb (dH.star (F:= [eU M,Vr R [pA g.g,pA b],Vr b [iN ds.length,iN c,a.val],Row a eW ws]) dH.refl)
 exact absurd C t
end
section
variable {fs:List FV}
def Jw (k:Int):Nat:=(IntKind.u64.wrap k).toNat
theorem VW (k:Int):IntKind.u64.wrap k=((Jw k:Nat):Int):=by
 have h:0≤IntKind.u64.wrap k:=by
  unfold IntKind.wrap;simp[IntKind.signed,IntKind.bits];omega
 unfold Jw;omega
structure SmP (fs:List FV) (d:km):Prop where
 sm:SmD fs d.1
 z:dsz d.1≤30000000
 t:sg fs d.1=0→(fU fs d.1).length≤2000000
 x:d.2.length≤1000000000
theorem Cj {ds:List Doc}(h:mg fs ds):(Ck fs ds).length≤1000000000:=by
 have b:=h.goodT;have d:=h.toks;have c:=h.size;have hn:=h.few;have hfl:=h.flen;have h1:=uV b;have h2:=tJ (fU fs ds);have h3:=Dw (H6 b d) (by rw[ka];omega);rw[ka]at h3;have h4:=Dj h.chk;have h5:=oK (fs:=fs) c hn fs.length;have h6:=kX (fs:=fs) (ds:=ds) a8 h.q;have e:=rB (l:=ds.map (·.1)) h.pos (λx hx=>bU);rw[Yh]at e;have h8:=gb (n:=ds.length) (k:=6) a8 a8;have hI:(pU ds).length≤10*4096+6:=by rw[pU,Ya];omega
 have a:∀n,n<1099511627776→(uv n).length≤6:=λn hn=>gb hn a8;have u0:(uv 6).length≤6:=a 6 ae;show(nN 83 (oC fs ds)).length≤_;rw[xZ,show(oC fs ds).length=6 from rfl];simp only[fN,oC,Vx,List.flatMap_nil,Ya,Yc,uk];have u1:=a (Bh fs).length a8;have u2:=a (pU ds).length a8;have u3:=a (nX fs ds fs.length).length a8;have u4:=a (iC (j8 0 (eE (fU fs ds)))).length a8;have u5:=a (eV (eE (fU fs ds))).length a8;have u6:=a (gm fs ds).length a8;omega
theorem NX {G:dJ}{H:dD}{fv pv:SV}{kp:Int}{a:PrA}{all:Bool}{lp:List (SV×SV)}{ps:List km} [hg:Glb G H] [Tab H 27 oc] [Tab H 25 mA] [hf:Sl H fv eF fs] [hd:Sl H pv eP lp] [Spc H] (hT:kh G) (L:ot) (c:rm H lp ps) (hpl:ps.length≤1000000000) (hsm:∀p∈ps,SmP fs p) (z:fs.length≤1000000) (y:∀f∈fs,f.name.size≤1000000000):
 SC G prog 6 [.agg #[fv.val,pv.val,.int .i64 kp,a.av.val,a.cu.val,a.ne.val,.bool all,a.dr.val,a.co.val]] H (λv K=>
  (v=.tuple #[.pointer none,.agg #[.slice none 0 0,.slice none 0 0],.int .i64 1]∧K=H)∨
  (∃(d:km) (dv xv:SV) (t:PtA) (s:List Nat) (F:dD),vn fs ps=true∧d∈ps∧yu d.1.length d.2 s∧eN F t ⟨fs,d.1,s⟩∧XB H (dv,xv) d∧v=.tuple #[pA t.p,.agg #[dv.val,xv.val],.int .i64 0]∧K=eU F::H)):=by
 have x:=c.1;refine sWk func6 ?_;refine gk (k:=bxx (k:=λC=>?_));refine gk (k:=alc (k:=λb3=>?_));refine go ?_;refine d1_ rfl (Zp (c.less hsb) hpl (λp hp=>(hsm p hp).sm) z y) (gk (k:=ep 6 17 (k:=λh1=>gk (k:=edq)) (q:=gW (λh2=>?_) (λh2=>?_))))
 ·refine ws_ (wr_ (e_ (bld []) (gR ?_)));exact⟨_,hsb,.inl ⟨rfl,rfl⟩⟩
 have w:vn fs ps=true∧0<ps.length:=by have h9:=h2;exact⟨h9.1,a8⟩
 obtain⟨r,j⟩:=w;obtain⟨E,m⟩:=ex (Jw kp%ps.length);have hlt:E<ps.length:=by rw[m];exact V2 _ j
 obtain⟨p,d,l,hp,B,N,J,M⟩:=c.get (i:=E) a8;have e:=Yj B;have b:=H3 r e;have h:=hsm _ e;have g:=qg b h.z (h.t b);refine go ?_;refine wD [14,15] (λk H=>(k=2→dQ H C [fv.val,pv.val,.int .i64 kp,a.av.val,a.cu.val,a.ne.val,.bool all,a.dr.val,a.co.val])∧(k=4→dQ H C [fv.val,pv.val,.int .i64 kp,a.av.val,a.cu.val,a.ne.val,.bool all,a.dr.val,a.co.val])∧(k=8→dQ H C [fv.val,pv.val,.int .i64 kp,a.av.val,a.cu.val,a.ne.val,.bool all,a.dr.val,a.co.val])∧(k=9→Sl H pv eP lp)∧(k=12→Sl H pv eP lp)∧(k=13→Sl H pv eP lp)) (aF 0 (k:=aF 1 (k:=?_)));refine aN 2 rfl (λH hH=>ah) ?_;refine aF 3 (k:=?_);refine aN 4 rfl (λH hH=>ar) ?_;refine aN 5 rfl (λH hH=>Mu rfl ((Jw kp:Nat):Int) (VW kp)) ?_;refine aF 6 (k:=aF 7 (k:=?_));refine aN 8 rfl (λH hH=>aL) ?_;refine aN 9 rfl (λH hH=>by have hN:=hH.2.2.2.1 rfl;exact lnn) ?_;refine aN 10 rfl (λH hH=>dW 18446744073709551616 rfl rfl rfl ps.length (by rw[x]) a8) ?_;refine aN 11 rfl (λH hH=>evq (mw rfl rfl (Jw kp) ps.length rfl rfl j) (congrArg (λn:Nat=>uN n) m.symm)) ?_;refine aN 12 rfl (λH hH=>by have hN:=hH.2.2.2.2.1 rfl;exact ixa) ?_;refine aN 13 rfl (λH hH=>by have hN:=hH.2.2.2.2.2 rfl;exact gr (hy:=hp)) ?_;refine aS 14 rfl m9 ?_;rintro _ _ ⟨R,rfl,rfl⟩;refine aS 15 rfl (ej rfl rfl rfl) ?_;rintro _ _ ⟨rfl,rfl⟩;refine aZ (go ?_);refine c2_ rfl (QE (ds:=d.1) (dead:=d.2) hT L (J.less hsb) b h.z (h.t b) (Cj g) h.x) ?_;rintro _ _ ⟨t,s,F,A,u,rfl,rfl⟩;refine e_ asn (on_ (qn_ (ws_ (ws_ (wr_ (e_ mv ?_))))));refine e_ (gu rfl) ?_;refine gW (λh3=>?_) λh3=>?_
 ·exact absurd h3 aq
 refine go ?_;refine wD [3] (λk H=>(k=1→dQ H R [p.1.val,p.2.val])) (aF 0 (k:=?_));refine aN 1 rfl (λH hH=>by have hN:=hH rfl;exact lds) (go ?_);refine aS 3 rfl (ej rfl rfl rfl) ?_;rintro _ _ ⟨rfl,rfl⟩;refine gk (k:=aZ (gR ?_));exact⟨_,hsb,.inr ⟨d,p.1,p.2,t,s,F,r,e,A,u,⟨⟨l,N,J⟩,M⟩,rfl,rfl⟩⟩
end
theorem JO {G:dJ}{H:dD}{fv dv xv:SV}{fs:List FV}{l:List (Int×SV)}{ds:List Doc}{dead:List Int} [hf:Sl H fv eF fs] [hd:Sl H dv eD l] [hx:Sl H xv eI dead] (h:gK H l ds) (hfn:fs.length≤1000000) (hn:ds.length≤1000000) (hv:∀d∈ds,d.2.length≤1000000) (hxl:dead.length≤1000000000):
 SC G prog 9 [.agg #[fv.val],.agg #[dv.val,xv.val]] H (λv w=>∃(s1 s2 s3:SV) (zs:List DG) (D:List Bool),zs.map dgD=ds∧D.length=ds.length∧(∀j,j<ds.length→D[j]? =some (decide (((j:Nat):Int)∈dead)))∧v=.agg #[s1.val,s2.val,s3.val]∧w=Row s1 eF fs::Row s2 eD (zs.map dgV)::Cl dgH zs::Row s3 eBo D::H):=by
 have s:=h.1;refine sWk func9 ?_;refine ws_ (wr_ (bxx (k:=λu=>?_)));refine bxx (k:=λt=>?_);refine alc (k:=λb4=>?_);refine on_ (qn_ (ws_ (wr_ (e_ fla (e_ ldv ?_)))));refine e_ (evq lnn (congrArg (λn:Nat=>iN n) s)) ?_;refine s_ (gn eBo false rfl rfl _ _ rfl rfl rfl a8 a8 a8) ?_;rintro _ _ ⟨c,rfl,hs11n,hs11c,rfl⟩;refine e_ asn (on_ (qn_ (ws_ (ws_ (wr_ (e_ fla (e_ ldv (e_ lnn (e_ mv (on_ (qn_ (wb_ (e8 (Nat×(List Bool)) (λy=>y.1≤dead.length∧y.2.length=ds.length∧∀j,j<ds.length→y.2[j]? =some (decide (((j:Nat):Int)∈dead.take y.1))) (λy=>[(15,iN y.1)]) [(2,_),(3,_),(4,_),(5,_),(13,_),(14,_)] (λy=>[Row c eBo y.2]) _ (λy=>dead.length-y.1) ((0,List.replicate ds.length false)) (h0:=?_) (k:=?_))))))))))))))
 ·try dsimp only
  exact⟨Yl _,Xe ..,λj hj=>by rw[S2,if_pos hj];simp⟩
 rintro⟨i,D⟩ ⟨hi,b,p⟩
 try dsimp only[Yd,Ye]at*
 refine ws_ (wr_ (e_ ilt (on_ (qn_ (ws_ (wi_ (k:=λh1=>?_) (m:=λh1=>?_)))))))
 ·obtain⟨e,he⟩:∃e,dead[i]? =some e:=⟨_,Yi ao⟩;refine wk_ (qn_ (ws_ (wb_ (ws_ (wr_ (e_ ixa (e_ (lel (hy:=he)) (e_ asn (on_ (qn_ (ws_ (wr_ (e_ mv ?_)))))))))))));refine e_ ige (e_ mv (dV 5 26 (k:=λh2=>eg_ mv (eg_ mv (eg_ (evq lnn (congrArg (λn:Nat=>iN n) b)) (eg_ ilt (e_ pkt (on_ edq)))))) (q:=on_ (qn_ (wi_ (k:=λh3=>?_) (m:=λh3=>?_))))))
  ·obtain⟨n,rfl⟩:∃n:Nat,e=(n:Int):=⟨e.toNat,aD⟩;have hnl:n<ds.length:=aD;refine wr_ (e_ mv (e_ mv (e_ ixa ?_)));refine s_ (et (i:=n) (a:=true) rfl rfl bH a8) ?_;rintro _ _ ⟨rfl,rfl⟩;refine on_ (bn_ (qn_ (wr_ (e_ iad (e_ mv (on_ ?_))))));refine lN ((i+1,D.set n true)) ?_
   try dsimp only
   exact⟨a8,by rw[Ub];exact b,λj hj=>by
   rw[Vf,dK he]
   by_cases hjn:n=j
   ·subst hjn;rw[if_pos rfl,if_pos a8];simp
   ·rw[if_neg hjn,p j hj];simp[show ¬((j:Nat):Int)=(n:Int)from a8]⟩
  refine wk_ (bn_ (qn_ (wr_ (e_ iad (e_ mv (on_ ?_))))));refine lN ((i+1,D)) ?_
  try dsimp only
  exact⟨a8,b,λj hj=>by
  have h8:=h3;rw[p j hj,dK he];have r:¬((j:Nat):Int)=e:=λh7=>a8;simp[r]⟩
 obtain rfl:i=dead.length:=ao;rw[Xn]at p;refine we_ (qe_ (le_ (bh_ (qn_ (ws_ ?_)))));refine wD [1,4,7] (λk H=>(k=0→dQ H u [fv.val])∧(k=3→dQ H t [dv.val,xv.val])) ?_;refine aN 0 rfl (λH hH=>aX) ?_;refine aF 2 (k:=?_);refine aN 3 rfl (λH hH=>aM) ?_;refine aF 5 (k:=?_);refine aS 1 rfl (lU (vs:= [_]) rfl (wZ a8)) ?_;rintro _ _ ⟨g,rfl,rfl⟩;refine aS 4 rfl (v1_ (JW (ds:=ds) (h.less hsb) hn hv)) ?_;rintro _ _ ⟨f,zs,hzs,rfl,rfl⟩;refine af_ 6 (q:=ea λH hH=>bld [(0,_),(1,_),(2,_)]) (k:=?_);refine aS 7 rfl (ej rfl rfl rfl) ?_;rintro _ _ ⟨rfl,rfl⟩;refine aZ (qn_ (wt_ (rT (k:=?_))));exact⟨Row g eF fs::Row f eD (zs.map dgV)::Cl dgH zs::Row c eBo D::H,hsb,g,f,c,zs,D,hzs,b,p,rfl,rfl⟩
end Go.Sx
