import Derived.Test.YtjhdcheijnegnaaGreatDoorQ31
set_option linter.all false
set_option maxHeartbeats 0
namespace Go.Sx
open Go Go.Proofs Tryz
set_option maxRecDepth 100000
section
variable {H:cG}{ds:List Doc}{fs:List FV}
structure yZ (H:cG) (a:PtA) (fs:List FV) (ds:List Doc):Prop where
 g:cY H a.g [a.fv.val,a.dv.val,a.lv.val,.pointer (some ⟨a.w,0,none⟩),a.bl.val,a.im.val]
 w:cY H a.w [a.ev.val]
 fv:Sl H a.fv eF fs
 dv:Sl H a.dv eD a.l
 docs:ew H a.l ds
 lv:Sl H a.lv eSV a.lvs
 lens:a.lvs.length=fs.length∧∀i s,a.lvs[i]? =some s→Sl H s eI (cP (et fs ds i))
 ev:Sl H a.ev eEn (gD 0 (dq (eQ fs ds)))
 bl:Sl H a.bl eB (dI (dq (eQ fs ds)))
theorem yZ.less {H':cG}{a:PtA}(hs:cH H' H) (h:yZ H a fs ds):yZ H' a fs ds:=⟨jD hs h.g,jD hs h.w,dj hs h.fv,dj hs h.dv,h.docs.less hs,dj hs h.lv,⟨h.lens.1,λi s hi=>dj hs (h.lens.2 i s hi)⟩,dj hs h.ev,dj hs h.bl⟩
theorem ni {F:cG}:cH (gO F::H) F:=λL hL=>by
 obtain⟨L1,L2,rfl,h1,_⟩:=sH hL;exact⟨L1,L2,h1,List.Perm.refl _⟩
theorem II {R:cG}{zs:List (SV×List Nat)}(hr:mW H (Cl lnH zs) R) (h:zs.map (·.2)=(List.range fs.length).map (et fs ds)):(zs.map (·.1)).length=fs.length∧∀i s,(zs.map (·.1))[i]? =some s→Sl H s eI (cP (et fs ds i)):=by
 have hl:zs.length=fs.length:=by have:=congrArg List.length h;simpa using this
 refine⟨by rw[Yh,hl],λi s hi=>?_⟩;rw[Xd]at hi;cases hz:zs[i]? with
 |none=>rw[hz]at hi;cases hi
 |some z=>
  rw[hz]at hi;cases hi;have h1:=congrArg (λl=>l[i]?) h;have hil:=(Yk.1 hz).1;simp only[Xd,hz,X3 (show i<fs.length from a8),Vd]at h1;have:=K4 hr hz;rw[Xo h1]at this;exact this
theorem KE {G:cJ}{fv s:SV} [hg:Glb G H] [Tab H 43 md] [Tab H 33 l7] [hf:Sl H fv eF fs] [hs:Sl H s eB (xy fs ds)] [Spc H] (hT:jt G) (hS:nJ) (a0:qP fs ds=0) (M:dsz ds≤30000000) (S:(eQ fs ds).length≤2000000) (hn:(xy fs ds).length≤1000000000):
 SC G prog 54 [.agg #[fv.val],s.val] H (λv H'=>∃(a:PtA) (F:cG),yZ F a fs ds∧v=.tuple #[pA a.g,.nilIface]∧H'=gO F::H):=by
 have p:=rR a0 M S;have hc:=p.chk;obtain⟨a2,a1⟩:=gq hc;have b4:fs≠ []:=λh=>by rw[h]at a2;simp at a2
 have t:=p.blocks;have hb:∀x∈xy fs ds,x<256:=IL ae (λq y=>⟨(t.1 q y).2.1,(t.1 q y).2.2⟩);have N:kd 83 (xy fs ds)=some (lE fs ds):=zC ae ae (by simp[lE]) (λq y=>by
  obtain⟨a,b,c⟩:=t.1 q y;have:=pQ y;exact⟨a,b,c,by have:=t.2.1;omega⟩)
 have Z:=yD p;have J:=p.few;have hsB:=jd (fs:=fs) (ds:=ds) a8 p.q;have hiB:(mH ds).length≤10*4096+6:=by
  have h7:=nS (l:=ds.map (·.1)) p.pos (λx hx=>by obtain⟨d,hd,rfl⟩:=Xw.1 hx;have:=p.ids d hd;omega);rw[Yh]at h7;have h8:=eA (n:=ds.length) (k:=6) a8 a8;rw[mH,Ya];omega
 refine sWk func54 ?_;refine gk (k:=bxx (k:=λb2=>?_));refine go ?_;refine c1_ rfl (vW (fs:=fs) a8 (λf hf=>by have:=(a1 f hf).1;omega)) ?_;rintro _ _ ⟨rfl,(⟨a3,rfl⟩|⟨a3,rfl⟩)⟩
 ·exact absurd a3 (by rw[hc];decide)
 refine e_ asn (on_ (qn_ (ws_ (wr_ (e_ mv ?_)))));refine e_ (cK rfl) ?_;refine gk (k:=iff_ (k:=go ?_));refine c2_ rfl (IU 83 ae a8 hb) ?_;rintro _ _ (⟨hr,rfl,e,rfl⟩|⟨bl,w,F0,j,hr,hB,rfl,rfl⟩)
 ·rw[N]at hr;cases hr
 rw[N]at hr;obtain rfl:=Xo hr;have y:=Qr hb N;have hlb:=hB.1;have A:(lE fs ds).length=6:=rfl;refine e_ mv (e_ exr (e_ exr (e_ asn (e_ asn (on_ (qn_ (ws_ (ws_ (wr_ (e_ mv ?_))))))))));refine e_ (cK rfl) ?_;refine gW (λh1=>?_) λh1=>?_
 ·exact absurd h1 a8
 obtain⟨p1,q1,hp1,X,b1⟩:=hB.at6 (i:=1) (by rw[A];decide);obtain⟨p3,q3,hp3,V,b0⟩:=hB.at6 (i:=3) (by rw[A];decide);obtain⟨p4,q4,hp4,b3,T⟩:=hB.at6 (i:=4) (by rw[A];decide);obtain⟨p5,q5,hp5,U,a9⟩:=hB.at6 (i:=5) (by rw[A];decide);obtain⟨a5,b6⟩:=y _ (Yj X);obtain⟨hb3,Y⟩:=y _ (Yj V);obtain⟨a4,b5⟩:=y _ (Yj U);obtain rfl:(2,mH ds)=q1:=Xo X;obtain rfl:(4,fT (gD 0 (dq (eQ fs ds))))=q3:=Xo V;obtain rfl:(5,dI (dq (eQ fs ds)))=q4:=Xo b3;obtain rfl:(6,eJ fs ds)=q5:=Xo U;simp only at b1 b0 T a9 a5 a4 b6 Y b5;refine go ?_;refine wD [9] (λk H=>(k=0→cY H b2 [fv.val])∧(k=2→Sl H j eK w)∧(k=3→Sl H j eK w)∧(k=4→Sl H j eK w)∧(k=6→Sl H j eK w)∧(k=7→Sl H j eK w)∧(k=8→Sl H j eK w)) ?_;refine aN 0 rfl (λH hH=>aW) ?_;refine aF 1 (k:=?_);refine aN 2 rfl (λH hH=>by have hN:=hH.2.1 rfl;exact ixa (i:=1)) ?_;refine aN 3 rfl (λH hH=>by have hN:=hH.2.2.1 rfl;exact fle) ?_;refine aN 4 rfl (λH hH=>by have hN:=hH.2.2.2.1 rfl;exact lfl) ?_;refine aF 5 (k:=?_);refine aN 6 rfl (λH hH=>by have hN:=hH.2.2.2.2.1 rfl;exact ixa (i:=5)) ?_;refine aN 7 rfl (λH hH=>by have hN:=hH.2.2.2.2.2.1 rfl;exact fle) (go ?_);refine aS 9 rfl (dy (vs:= [_,_,_]) rfl (Nr (ids:=mH ds) (body:=eJ fs ds) hc a8 a8 a5 a4)) ?_;rintro _ _ (⟨hd,m,rfl,rfl⟩|⟨zs,m,hd,rfl,rfl⟩)
 ·rw[Z]at hd;cases hd
 rw[Z]at hd;obtain rfl:=Xo hd;have hzm:(zs.map dgV).length=zs.length:=Yh ..;have B:∀d∈zs.map dgD,d.2.length≤64∧∀v∈d.2,v.2.size≤4096:=λd hd=>by
  obtain⟨g1,g2⟩:=kK (p.vals d hd);exact⟨g1,λv hv=>(g2 v hv).1⟩
 have hfew2:zs.length≤4096:=by rw[Yh]at J;exact J
 refine gk (k:=aZ (go ?_));refine iff_ (k:=go ?_);refine c2_ rfl (Ef (ds:=zs.map dgD) hT hS (GD (zs:=zs) inferInstance) a8 (λf hf=>by have:=(a1 f hf).1;omega) a8 (λd hd=>⟨by have:=(B d hd).1;omega,λv hv=>by have:=(B d hd).2 v hv;omega⟩) M S) ?_;rintro _ _ (⟨K,u,rfl,rfl⟩|⟨K,ke,hke,rfl,rfl⟩)
 ·refine e_ mv (e_ exr (e_ exr (e_ asn (e_ asn (on_ (qn_ (ws_ (ws_ (wr_ (e_ mv ?_))))))))));refine e_ (cK rfl) (go ?_);refine sg_ (v2_ (Jn hb hb)) (k:=?_);rintro _ _ ⟨rfl,rfl⟩;refine gW (λh2=>?_) λh2=>?_
  ·exact absurd h2 ak
  have hrl:=py (eQ fs (zs.map dgD));have b7:(fT (gD 0 (dq (eQ fs (zs.map dgD))))).length≤1000000000:=Xi Y hn;refine wk_ (qn_ (ws_ (wr_ (e_ mv (e_ (ixa (i:=3)) (go ?_))))));refine c1_ rfl (Ca (l:=gD 0 (dq (eQ fs (zs.map dgD)))) t.2.2.1 (by rw[iF];omega) b7) ?_;rintro _ _ ⟨R,r,rfl,rfl⟩;refine e_ mv (e_ exr (e_ exr (e_ asn (e_ asn (on_ (qn_ (ws_ (ws_ (wr_ (e_ mv ?_))))))))));refine e_ (cK rfl) ?_;refine gk (k:=iff_ (k:=go ?_));refine c1_ rfl (Mx (fs:=fs) b4 a8) ?_;rintro _ _ ⟨g,rfl,rfl⟩;refine e_ (bld [(0,_)]) (alc (k:=λa6=>?_));refine go ?_;refine wD [4,7,15] (λk H=>(k=0→cY H a6 [g.val])∧(k=2→cY H a6 [g.val])∧(k=10→Sl H j eK w)∧(k=11→Sl H j eK w)∧(k=12→Sl H j eK w)) ?_;refine aN 0 rfl (λH hH=>aW) ?_;refine aF 1 (k:=?_);refine aN 2 rfl (λH hH=>by have hN:=hH.2.1 rfl;exact lds) ?_;refine aF 3 (k:=aF 8 (k:=aF 9 (k:=?_)));refine aN 10 rfl (λH hH=>by have hN:=hH.2.2.1 rfl;exact ixa (i:=4)) ?_;refine aN 11 rfl (λH hH=>by have hN:=hH.2.2.2.1 rfl;exact fle) ?_;refine aN 12 rfl (λH hH=>by have hN:=hH.2.2.2.2 rfl;exact lfl) ?_;refine aF 13 (k:=?_);refine aS 4 rfl (dy (vs:= [_,_]) rfl (AN (ds:=zs.map dgD) hT (GD (zs:=zs) inferInstance) a8 a8 (λd hd=>⟨by have:=(B d hd).1;omega,λv hv=>by have:=(B d hd).2 v hv;omega⟩) M)) ?_;rintro _ _ ⟨gg,L,rr,E,rfl,a7,rfl⟩;haveI:=T;refine aF 5 (k:=aF 6 (k:=?_));refine aS 7 rfl (Ev.st ldv) ?_;rintro _ _ ⟨rfl,rfl⟩;refine af_ 14 (q:=cU λH hH=>bld [(0,_),(1,_),(2,_),(3,_),(4,_),(5,_)]) (k:=?_);refine aS 15 rfl (sJ rfl) ?_;rintro _ _ ⟨C,rfl,rfl⟩;refine gk (k:=aZ (gR ?_));refine⟨_,?_,⟨0,C,0,R,g,m,L,r,p4.2,u,SV.nil,0,zs.map dgV,E.map λz:SV×List Nat=>z.1⟩, [Vr C [g.val,m.val,L.val,pA R,p4.2.val,u.val],Row g eF fs,Row m eD (zs.map dgV),Cl dgH zs,Row L eSV (E.map λz:SV×List Nat=>z.1),Cl lnH E,Vr R [r.val],Row r eEn (gD 0 (dq (eQ fs (zs.map dgD)))),gO F0],⟨inferInstance,inferInstance,inferInstance,inferInstance,GD (zs:=zs) inferInstance,inferInstance,II (zs:=E) inferInstance a7,inferInstance,inferInstance⟩,rfl,rfl⟩;exact cH.trans (H':=Vr C [g.val,m.val,L.val,pA R,p4.2.val,u.val]::Row g eF fs::Row m eD (zs.map dgV)::Cl dgH zs::Row L eSV (E.map λz:SV×List Nat=>z.1)::Cl lnH E::Vr R [r.val]::Row r eEn (gD 0 (dq (eQ fs (zs.map dgD))))::gO F0::H) hsb (cH.star (F:= [Vr C [g.val,m.val,L.val,pA R,p4.2.val,u.val],Row g eF fs,Row m eD (zs.map dgV),Cl dgH zs,Row L eSV (E.map λz:SV×List Nat=>z.1),Cl lnH E,Vr R [r.val],Row r eEn (gD 0 (dq (eQ fs (zs.map dgD)))),gO F0]) cH.refl)
 exact absurd a0 K
end
section
variable {a:PtA}
theorem Iy {H:cG}{p d cnt:Nat}{b:SV}{fs:List FV}{ds:List Doc}{ws:List Nat}(hs:yZ H a fs ds) (hp:cY H p [pA a.g,pA d]) (hd:cY H d [iN ds.length,iN cnt,b.val]) (c:Sl H b eW ws):dT H {a with p:=p,d:=d,ws:=b,cnt:=cnt} ⟨fs,ds,ws⟩:=
 ⟨hp,hs.g,hd,hs.w,hs.fv,hs.dv,hs.docs,hs.lv,hs.lens,hs.ev,hs.bl,c⟩
theorem dT.star {F H:cG}{q:PtD}(h:dT F a q):dT (gO F::H) a q:=h.less ni
section
variable {G:cJ}{P:Program}{N:Nat}{Q:Go.Sx.Post}{t:Tm}{H:cG}{ops:Array Oper}{l:List Oper}
theorem LC {R:cG}(b:Nat) {p:DsG} [hr:Rem H Ds b p R] (h:∀s:SV,O G P N ops l Q t (Vr b [iN p.n,iN p.c,s.val]::Row s eW p.ws::R)):O G P N ops l Q t H:=
 ⟨λa w ha c=>let ⟨s,hs⟩:=zA (K:=Ds) rfl hr c;(h s).go a w ha hs⟩
end
end
end Go.Sx
