import Derived.Test.YtcokhbglfaakjaaGreatDoorQ18
set_option linter.all false
set_option maxHeartbeats 0
namespace Go.Sx
open Go Go.Proofs Tryz
set_option maxRecDepth 100000
section
variable {H:dD}
structure NrG where
 s1:SV
 s2:SV
 n:lI
def nrH (z:NrG):dD:= [Row z.s1 eI z.n.cs,Row z.s2 eI z.n.offs]
def nrV (z:NrG):NrV:=(z.s1,z.s2,z.n.slop)
theorem Pb {l:List NrG}(z:NrG):dH (Row z.s1 eI z.n.cs::Row z.s2 eI z.n.offs::Cl nrH l::H) (Cl nrH (l++ [z])::H):=o4 (f:=nrH) z
theorem Pc {l:List NrG}(z:NrG){u:SV}:dH (Row z.s1 eI z.n.cs::Row z.s2 eI z.n.offs::Cl nrH l::Row u eNr (l.map nrV++ [nrV z])::H) (Cl nrH (l++ [z])::Row u eNr ((l++ [z]).map nrV)::H):=by
 rw[Xp];exact Pb z
theorem GD {l:List NrG}{i:Nat}{z:NrG}(h:l[i]? =some z):dH (Cl nrH l::H) (Row z.s1 eI z.n.cs::Row z.s2 eI z.n.offs::Cl nrH (l.take i)::Cl nrH (l.drop (i+1))::H):=lY (f:=nrH) h
theorem XM {R:dD}{zs:List NrG}(hr:nR H (Cl nrH zs) R):DY H (zs.map nrV) (zs.map (·.n)):=
 ⟨aq,λi z n a hn=>by
   rw[Xd]at a hn;cases hg:zs[i]? with
   |none=>rw[hg]at a;cases a
   |some g=>
    rw[hg]at a hn;cases a;cases hn;exact⟨ee (gJ hr (GD hg)) (show Sl _ g.s1 eI g.n.cs from inferInstance),ee (gJ hr (GD hg)) (show Sl _ g.s2 eI g.n.offs from inferInstance),rfl⟩⟩
instance il.star {F H:dD}{a:PrA}{p:PrG} [h:il F a p]:il (eU F::H) a p:=h.less za
theorem NW {G:dJ}{H:dD}{a:PrA}{p:PrG} [hp:il H a p] (hps:Bz p) (hos:∀n∈p.nears,n.offs.length≤1000000000):SC G prog 28 [.agg (prV a p.all).toArray] H (λv H'=>∃(a':PrA) (F:dD),il F a' p∧v=.agg (prV a' p.all).toArray∧H'=eU F::H):=by
 have q1:=hps.a;have q2:=hps.c;have q3:=hps.n;have q4:=hps.d;have hnz:=hp.nr.1;refine sWk func28 ?_;refine ws_ (wr_ (bxx (k:=λb1=>?_)));refine alc (k:=λb2=>?_);refine on_ (qn_ (ws_ (wr_ (e_ fla (k:=e_ ldv (k:=e_ (bld [(3,_)]) (k:=alc (k:=λb3=>?_))))))));refine sto (k:=on_ (qn_ (ws_ (?_))));refine wD [2,5,8,10,12,14] (λk H=>(k=1→dQ H b1 (prV a p.all))∧(k=4→dQ H b1 (prV a p.all))∧(k=7→dQ H b1 (prV a p.all))) (aF 0 (k:=?_));refine aN 1 rfl (λH hH=>ah) (?_);refine aF 3 (k:=?_);refine aN 4 rfl (λH hH=>ar) (?_);refine aF 6 (k:=?_);refine aN 7 rfl (λH hH=>by have hN:=hH.2.2 rfl;exact ldv) (?_);refine aS 2 rfl (kA rfl rfl rfl rfl (a8) (a8)) ?_;rintro _ _ ⟨s11,rfl,rfl⟩;refine aF 9 (k:=?_);refine aS 5 rfl (kA rfl rfl rfl rfl (a8) (a8)) ?_;rintro _ _ ⟨s14,rfl,rfl⟩;refine aS 8 rfl (kA rfl rfl rfl rfl (a8) (a8)) ?_;rintro _ _ ⟨s17,rfl,rfl⟩;refine aS 10 rfl (ej rfl rfl rfl) ?_;rintro _ _ ⟨rfl,rfl⟩;refine aF 11 (k:=?_);refine aS 12 rfl (ej rfl rfl rfl) ?_;rintro _ _ ⟨rfl,rfl⟩;refine aF 13 (k:=?_);refine aS 14 rfl (ej rfl rfl rfl) ?_;rintro _ _ ⟨rfl,rfl⟩;refine aZ (qn_ (ws_ (ws_ (wr_ (?_)))));refine eu (dH.nilRow (e:=eNr) (ga (f:=nrH) dH.refl)) ?_;refine e_ fla (k:=e_ ldv (k:=e_ lnn (k:=e_ mv (k:=on_ (qn_ (wb_ (e8 (Nat×SV×(List NrG)) (λy=>y.1≤p.nears.length∧y.2.2.map (·.n)=p.nears.take y.1) (λy=>[(24,iN y.1)]) [(2,_),(3,_),(22,_),(23,_)] (λy=>[Vr b3 [s11.val,s17.val,y.2.1.val,.bool p.all,s14.val,.slice none 0 0],Row y.2.1 eNr (y.2.2.map nrV),Cl nrH y.2.2]) _ (λy=>p.nears.length-y.1) ((0,SV.nil, [])) (h0:=?_) (k:=?_))))))))
 ·try dsimp only
  exact⟨Yl _,rfl⟩
 rintro⟨i,u,zs⟩ ⟨hi,hzs⟩
 try dsimp only[Yd,Ye]at*
 refine ws_ (wr_ (e_ ilt (k:=on_ (qn_ (ws_ (wi_ (k:=λh1=>?_) (m:=λh1=>?_)))))))
 ·obtain⟨⟨z1,z2,z3⟩,n,hz,hn,hz1,hz2,hz3⟩:=hp.nr.get (i:=i) (a8);dsimp only at hz1 hz2 hz3;subst hz3;have hnm:=Yj hn;have hns:=hps.ns n hnm;have hno:=hos n hnm;haveI:=hz1;haveI:=hz2;have hzl:(zs.map nrV).length≤1000000000:=cy;refine wk_ (qn_ (ws_ (wb_ (ws_ (wr_ (e_ ixa (k:=e_ (gr (hy:=hz)) (k:=alc (k:=λb5=>?_)))))))));refine sto (k:=on_ (qn_ (?_)));refine wD [4,7,11,12,14] (λk H=>(k=1→dQ H b3 [s11.val,s17.val,u.val,.bool p.all,s14.val,.slice none 0 0])∧(k=3→dQ H b5 [z1.val,z2.val,.int .i64 n.slop])∧(k=6→dQ H b5 [z1.val,z2.val,.int .i64 n.slop])∧(k=9→dQ H b5 [z1.val,z2.val,.int .i64 n.slop])) (aF 0 (k:=?_));refine aN 1 rfl (λH hH=>ah) (?_);refine aF 2 (k:=?_);refine aN 3 rfl (λH hH=>ar) (?_);refine aF 5 (k:=?_);refine aN 6 rfl (λH hH=>aL) (?_);refine aF 8 (k:=?_);refine aN 9 rfl (λH hH=>by have hN:=hH.2.2.2 rfl;exact ldv) (?_);refine aS 4 rfl (kA rfl rfl rfl rfl (a8) (a8)) ?_;rintro _ _ ⟨s32,rfl,rfl⟩;refine aS 7 rfl (kA rfl rfl rfl rfl (a8) (a8)) ?_;rintro _ _ ⟨s35,rfl,rfl⟩;refine af_ 10 (q:=ea λH hH=>bld [(0,_),(1,_),(2,_)]) (k:=?_);refine aS 11 rfl (fK eNr rfl rfl) ?_;rintro _ _ ⟨s39,rfl,rfl⟩;refine aS 12 rfl (gf rfl rfl rfl rfl (ab) (ab)) ?_;rintro _ _ ⟨s40,rfl,rfl⟩;refine aF 13 (k:=?_);refine aS 14 rfl (ej rfl rfl rfl) ?_;rintro _ _ ⟨rfl,rfl⟩;refine aZ (bn_ (qn_ (wr_ (?_))));refine eu (dH.trans (H':=Row s32 eI n.cs::Row s35 eI n.offs::Cl nrH zs::Row s40 eNr (zs.map nrV++ [nrV ⟨s32,s35,n⟩])::Vr b3 [s11.val,s17.val,s40.val,.bool p.all,s14.val,.slice none 0 0]::Row s17 eLf p.curs::Row s14 eI p.drive::Row s11 eI p.avgs::Vr b2 [.slice none 0 0,.slice none 0 0,.slice none 0 0,.bool false,.slice none 0 0,.slice none 0 0]::Vr b1 (prV a p.all)::H) (hsb) (Pc ⟨s32,s35,n⟩)) ?_;refine e_ iad (k:=e_ mv (k:=on_ (?_)));refine ln_ ((i+1,s40,zs++ [(⟨s32,s35,n⟩:NrG)])) (k:=?_)
  try dsimp only
  exact⟨a8,by rw[Xp,hzs,dK hn];all_goals rfl⟩
 obtain rfl:i=p.nears.length:=a8;rw[Xn]at hzs;refine gR ?_;refine⟨_,?_,⟨s11,s17,u,s14,SV.nil,zs.map nrV⟩, [Row s11 eI p.avgs,Row s17 eLf p.curs,Row u eNr (zs.map nrV),Row s14 eI p.drive,Cl nrH zs],⟨inferInstance,inferInstance,inferInstance,?_,inferInstance⟩,rfl,rfl⟩
 ·exact dH.trans (H':=Row s11 eI p.avgs::Row s17 eLf p.curs::Row u eNr (zs.map nrV)::Row s14 eI p.drive::Cl nrH zs::H) (hsb) (dH.star (F:= [Row s11 eI p.avgs,Row s17 eLf p.curs,Row u eNr (zs.map nrV),Row s14 eI p.drive,Cl nrH zs]) dH.refl)
 ·have:=XM (zs:=zs) (H:= [Row s11 eI p.avgs,Row s17 eLf p.curs,Row u eNr (zs.map nrV),Row s14 eI p.drive,Cl nrH zs]) inferInstance;rw[hzs]at this;exact this
end
section
variable {H:dD}{T:Nat}{c:CuS}{cs:List CuS}{p:PrG}{q:PtD}
set_option synthInstance.maxHeartbeats 400000
set_option synthInstance.maxSize 4000
structure sj (p:PrG) (q:PtD) (T:Nat):Prop where
 sm:Bz p
 seg:mg q.fs q.ds
 pt:FJ q
 tot:∀ps∈fa p q,ec ps≤T
 near:∀n∈p.nears,n.cs.length*T≤1000000000000∧n.cs.length≤100000000
 cn:p.curs.length≤100000000
 os:∀n∈p.nears,n.offs.length≤1000000000
theorem CB (h:mg q.fs q.ds):∀a∈fa p q,j5 0 a∧fL a∧ec a≤100000000:=λa b=>by
 obtain⟨c,_,rfl⟩:=Xt.1 b;obtain⟨h1,h2,h3⟩:=oP (k:=c.1.toNat%256::dC c.2) h.goodT;have:=h.toks;exact⟨h1,h2,Xi h3 a8⟩
theorem QQ {x:MX}{ins:List Ins}(hk:sj p q T) (hn:kP p q=.ok ins) (ha:x.all=p.all) (hc:x.cs.length=p.curs.length):(∃a,tl x p q (fa p q) T ins a)∧lT (dM p q ins) (fa p q) (mn (fa p q)):=by
 obtain⟨⟨a,h1,h2⟩,h3,h4⟩:=Pf hn;obtain⟨t1,h,g,f,t5⟩:=rz h2.tab;have hl:(fa p q).length=p.curs.length:=Yh ..;obtain⟨j,d2⟩:=wG _ _ _ hk.sm.cb h4;have i:=Hh _ _ _ h4;have hsk:=hk.sm.k;have d:=hk.cn;have b:=hk.sm.n;refine⟨⟨a,⟨⟨by rw[hc,hl],by rw[hl],λc hc=>by have:=g c hc;rw[h3];omega,h3.symm,h,by rw[hl];exact d,hk.pt,hk.tot,λn hn=>⟨f n hn,hk.near n hn⟩,b,λz e=>⟨i z e,j z e⟩,a8⟩,h2,ha,hk.sm.d⟩⟩,?_⟩;exact K3 (CB hk.seg)
abbrev cu0 (p:PrG) (q:PtD):List CuS:=(fa p q).map λps=>⟨ps,0,0,false⟩
theorem Hi {i:Nat}{b:Nat}{a:ByteArray}(h:p.curs[i]? =some (((b:Nat):Int),a)):(cu0 p q)[i]? =some ⟨nC q.fs q.ds b a,0,0,false⟩:=by
 rw[cu0,fa,Xd,Xd,h];all_goals rfl
theorem Jb {bs:List Nat}{b:Nat}(h:bs.length=cs.length):(bs++ [b]).zip (cs++ [c])=bs.zip cs++ [(b,c)]:=by rw[List.zip_append h];all_goals rfl
theorem Qa {l:List (Nat×CuS)}(b:Nat) (c:CuS):dH (CuH b c::Cl cuZ l::H) (Cl cuZ (l++ [(b,c)])::H):=o4 (f:=cuZ) (b,c)
theorem Qc {bs:List Nat}{i b:Nat}{u:SV}(hc:cs[i]? =some c) (hb:bs.length=i):dH (CuH b c::Cl cuZ (bs.zip (cs.take i))::Row u ePt ((bs.map λb=>(b,0))++ [(b,0)])::H) (Cl cuZ ((bs++ [b]).zip (cs.take (i+1)))::Row u ePt ((bs++ [b]).map λb=>(b,0))::H):=by
 have:=(Yk.1 hc).1;rw[dK hc,Jb az,Xp];exact Qa b c
theorem QG {G:dJ}{a:PrA}{pt:PtA} [hg:Glb G H] [hia:Isa H] [hp:il H a p] [hpc:pk H a p] [hpt:eN H pt q] (hk:sj p q T):SC G prog 12 [.agg (prV a p.all).toArray,pA pt.p] H (λv H'=>
 (∃e:Nat,kP p q=.error e∧(e=20∨e=9)∧v=.tuple #[.pointer none,G.err e]∧H'=H)∨
 (∃(ins:List Ins) (m:Nat) (j:PrA) (g u:SV) (bs:List Nat) (F:dD),kP p q=.ok ins∧bs.length=p.curs.length∧qz F ⟨j,p.all,g,pt,u,bs⟩ p ins∧v=.tuple #[pA m,.nilIface]∧H'=Ma m (⟨j,p.all,g,pt,u,bs⟩,mn (fa p q))::eU F::H)):=by
 have l:=hk.sm;have hcn:=hk.cn;refine sWk func12 ?_;refine ws_ (wr_ (bxx (k:=λb2=>?_)));refine e_ asn (e_ asn (on_ (qn_ (ws_ (ws_ (wr_ (e_ lds ?_)))))));refine c1_ rfl (Sm (a:=a) (p:=p) l) ?_;rintro _ _ ⟨(⟨hno,rfl⟩|⟨tb,n8,m8,A,rfl⟩),rfl⟩
 ·have hN:kP p q=.error 20:=by rw[kP,hno]
  refine e_ mv (e_ exr (e_ exr (alc (k:=λZ=>?_))));refine sto (k:=e_ asn (on_ (qn_ (ws_ (wr_ (e_ mv ?_))))));refine e_ (eg rfl) ?_;refine on_ (qn_ (ift (k:=ws_ ?_)));refine dX dN (as_ 0 (q:=ldv) (k:=as_ 1 (q:=asn) (k:=as_ 2 (q:=asn) (k:=az_ (k:=qn_ (wt_ (qr_ (rT (k:=?_)))))))));exact⟨_,hsb,.inl ⟨20,hN,.inl rfl,rfl,rfl⟩⟩
 obtain⟨t,B⟩:=vz A;have d:=B.dec;refine e_ mv (e_ exr (e_ exr (alc (k:=λZ=>?_))));refine sto (k:=e_ asn (on_ (qn_ (ws_ (wr_ (e_ mv ?_))))));refine e_ (dL rfl) ?_;refine on_ (qn_ (fM (k:=wk_ (qn_ (ws_ (ws_ ?_))))));refine wD [4,6] (λk H=>(k=3→dQ H pt.p [pA pt.g,pA pt.d])∧(k=8→dQ H b2 (prV a p.all))∧(k=9→Sl H a.av eI p.avgs)) (aF 0 (k:=aF 1 (k:=aF 2 (k:=?_))));refine aN 3 rfl (λH hH=>ah) ?_;refine aF 7 (k:=?_);refine aN 8 rfl (λH hH=>ar) ?_;refine aN 9 rfl (λH hH=>by have hN:=hH.2.2 rfl;exact lnn) ?_;refine aS 4 rfl (v1_ (JM (a:=pt) hk.pt)) ?_;rintro _ _ ⟨K,rfl,rfl⟩;refine aN 5 rfl (λH hH=>jz (ft:=22) (off:=0) underlying24 rfl rfl rfl) ?_;refine aS 6 rfl (Ev.st lnn) ?_;rintro _ _ ⟨rfl,rfl⟩;refine aF 10 (k:=aZ (qn_ (wi_ (k:=λh1=>?_) (m:=λh1=>?_))))
 ·have hN:kP p q=.error 9:=by rw[kP,A];simp only;rw[if_neg ao]
  refine ws_ ?_;refine dX dN (as_ 0 (q:=ldv) (k:=as_ 1 (q:=asn) (k:=as_ 2 (q:=asn) (k:=az_ (k:=qn_ (wt_ (qr_ (rT (k:=?_)))))))));exact⟨_,hsb,.inl ⟨9,hN,.inr rfl,rfl,rfl⟩⟩
 have hN:kP p q=.ok t:=by rw[kP,A,d];simp only;rw[if_pos ao]
 obtain⟨t1,t2,t3,t4,t5⟩:=rz B.tab;have hfa:q.fs.length=p.avgs.length:=ao;refine wk_ (qn_ (ws_ (wr_ (e_ lds ?_))));refine c1_ rfl (NW (a:=a) (p:=p) l hk.os) ?_;rintro _ _ ⟨j,J,X,rfl,rfl⟩;haveI:=X;refine e_ mv ?_;refine d0_ rfl BW (e_ (bld [(0,_),(2,_),(4,_),(6,_)]) (bxx (k:=λh=>?_)));refine e_ asn (on_ (qn_ (ws_ (wr_ (e_ mv (e_ fla (e_ ldv ?_)))))));refine c1_ rfl (G6 (xs:=p.code) l.k l.cb) ?_;rintro _ _ (⟨S,rfl,rfl⟩|⟨g,c,U,rfl,rfl⟩)
 ·rw[lu,S]at d;cases d
 obtain rfl:c=t:=by rw[lu,U]at d;exact Xk d
 refine e_ mv (e_ exr (e_ exr (e_ nck (e_ fla (sto (k:=on_ (qn_ (ws_ (ws_ (wr_ ?_))))))))));refine eu (dH.nilRow (e:=ePt) (ga (f:=cuZ) dH.refl)) ?_;refine e_ mv (e_ nck (e_ fla (e_ fla (e_ ldv (e_ lnn (e_ mv (on_ (qn_ (wb_ (e8 (Nat×SV×(List Nat)) (λy=>y.1≤p.curs.length∧y.2.2.length=y.1) (λy=>[(52,iN y.1)]) [(1,_),(8,_),(50,_),(51,_)] (λy=>[Vr h (mV ⟨j,p.all,g,pt,y.2.1,y.2.2⟩ SV.nil ⟨[], -1,0,0,0⟩),Row y.2.1 ePt (y.2.2.map λb=>(b,0)),Cl cuZ (y.2.2.zip ((cu0 p q).take y.1))]) _ (λy=>p.curs.length-y.1) ((0,SV.nil, [])) (h0:=?_) (k:=?_)))))))))))
 ·exact⟨Yl _,rfl⟩
 rintro⟨i,u,bs⟩ ⟨hi,r⟩
 try dsimp only[Yd,Ye]at*
 refine ws_ (wr_ (e_ ilt (on_ (qn_ (ws_ (wi_ (k:=λh2=>?_) (m:=λh2=>?_)))))))
 ·obtain⟨⟨C,L⟩,hfk⟩:∃z,p.curs[i]? =some z:=⟨_,Yi a8⟩;obtain⟨R,N,M⟩:=t3 _ (Yj hfk);simp only at R N M;obtain⟨Y,rfl⟩:∃n:Nat,C=(n:Int):=⟨C.toNat,a8⟩;have V:=Hi (q:=q) hfk;have hbl:(bs.map λb=>((b,0):Nat×Nat)).length=i:=by rw[Yh,r]
  refine wk_ (qn_ (ws_ (wb_ (ws_ (wr_ (e_ ixa (e_ (gr (hy:=hfk)) (alc (k:=λE=>?_)))))))));refine sto (k:=on_ (qn_ ?_));refine wD [13,14,15,18] (λk H=>(k=4→dQ H h (mV ⟨j,p.all,g,pt,u,bs⟩ SV.nil ⟨[], -1,0,0,0⟩))∧(k=8→dQ H pt.p [pA pt.g,pA pt.d])∧(k=10→dQ H E [iN Y,.string L])∧(k=12→dQ H E [iN Y,.string L])) (aF 0 (k:=aF 1 (k:=aF 2 (k:=aF 3 (k:=?_)))));refine aN 4 rfl (λH hH=>ah) ?_;refine aF 5 (k:=aF 6 (k:=aF 7 (k:=?_)));refine aN 8 rfl (λH hH=>ar) ?_;refine aF 9 (k:=?_);refine aN 10 rfl (λH hH=>aL) ?_;refine aF 11 (k:=?_);refine aN 12 rfl (λH hH=>by have hN:=hH.2.2.2 rfl;exact ldv) ?_;refine aS 13 rfl (lU (vs:= [_,_,_]) rfl (NU (a:=pt) hk.seg a8 a8)) ?_;rintro _ _ ⟨s,rfl,rfl⟩;refine aS 14 rfl (fK ePt rfl rfl) ?_;rintro _ _ ⟨s70,rfl,rfl⟩;refine aS 15 rfl (gf rfl rfl rfl rfl ab ab) ?_;rintro _ _ ⟨w,rfl,rfl⟩;refine aF 16 (k:=aF 17 (k:=?_));refine aS 18 rfl (ej rfl rfl rfl) ?_;rintro _ _ ⟨rfl,rfl⟩;refine aZ (bn_ (qn_ (wr_ ?_)));refine eu (dH.trans (H':=CuH s ⟨nC q.fs q.ds Y L,0,0,false⟩::Cl cuZ (bs.zip ((cu0 p q).take i))::Row w ePt ((bs.map λb=>(b,0))++ [(s,0)])::Vr h (mV ⟨j,p.all,g,pt,w,bs++ [s]⟩ SV.nil ⟨[], -1,0,0,0⟩)::Row g l7 c::eU J::Row K eF q.fs::Vr Z [.int .i64 n8,.int .i64 m8]::Vr b2 (prV a p.all)::H) hsb (Qc V r)) ?_;refine e_ iad (e_ mv (on_ ?_));refine lN ((i+1,w,bs++ [s])) ?_
  try dsimp only
  exact⟨a8,by rw[Ya,r];all_goals rfl⟩
 obtain rfl:i=p.curs.length:=a8;refine we_ (qe_ (le_ (bh_ (qn_ (ws_ (wr_ (e_ mv (e_ asn (e_ asn (on_ (qn_ (wt_ (rT (k:=?_))))))))))))));have ht:(cu0 p q).take p.curs.length=cu0 p q:=Xr (by rw[cu0,fa,Yh,Yh];exact Xl _);refine⟨_,?_,.inr ⟨c,h,j,g,u,bs, [Row u ePt (bs.map λb=>(b,0)),Row g l7 c,eU J],hN,r,⟨inferInstance,inferInstance,inferInstance⟩,rfl,rfl⟩⟩;exact(dH.nilRow (e:=eVV) dH.refl).trans (dH.trans (H':=Vr h (mV ⟨j,p.all,g,pt,u,bs⟩ SV.nil ⟨[], -1,0,0,0⟩)::Row SV.nil eVV []::Cl cuZ (bs.zip (cu0 p q))::Row u ePt (bs.map λb=>(b,0))::Row g l7 c::eU J::H) (by rw[ht];exact hsb) ((mc (x:=⟨j,p.all,g,pt,u,bs⟩) (y:=⟨[], -1,0,0,0⟩)).trans ((CT (x:=⟨j,p.all,g,pt,u,bs⟩) (y:=⟨[], -1,0,0,0⟩) (cs:=cu0 p q)).trans (dH.keep (dH.star (F:= [Row u ePt (bs.map λb=>(b,0)),Row g l7 c,eU J]) dH.refl)))))
end
abbrev Oo:Value:=.agg [.slice none 0 0,.int .i64 0,.int .i64 0,.int .i64 0].toArray
abbrev Wy (sh:SV) (s:MS):Value:=.agg [sh.val,.int .i64 ((s.steps:Nat):Int),.int .i64 ((rF s:Nat):Int),.int .i64 ((s.visits:Nat):Int)].toArray
abbrev jg (p:PrG) (q:PtD) (ins:List Ins):List Hit×MS:=Kl (dM p q ins) (mn (fa p q))
section
variable {G:dJ}{H R:dD}{m T:Nat}{x:MX}{s:MS}{p:PrG}{q:PtD}{ins:List Ins}{pss:List (List Po)}{tb:Hs}
theorem RQ [hr:Rem H Ma m (x,s) R] [hg:Glb G R] [hpt:eN R x.pt q] [hmf:qz R x p ins] (d:ph) (e:jf) (a:tl x p q pss T ins tb) (b:lT (dM p q ins) pss s):SC G prog 15 [pA m] H (λv c=>((∃h:Hit,(fh (dM p q ins) s).1=some h∧v=.tuple #[.agg #[.int .i64 h.1,uN h.2],.bool true])∨((fh (dM p q ins) s).1=none∧v=.tuple #[.agg #[.int .i64 0,.int .u64 0],.bool false]))∧c=Ma m (x,(fh (dM p q ins) s).2)::R):=
 (RO d e a b).mono λv c h=>⟨by
   rw[h.1];cases(fh (dM p q ins) s).1 with
   |none=>exact .inr ⟨rfl,rfl⟩
   |some z=>exact .inl ⟨z,rfl,rfl⟩,h.2⟩
end
theorem W3 {G:dJ}{H:dD}{a:PrA}{p:PrG}{pt:PtA}{q:PtD}{T:Nat}{fu:Int} [hg:Glb G H] [hia:Isa H] [hp:il H a p] [hpc:pk H a p] [hpt:eN H pt q] (Z:ph) (hC:jf) (hk:sj p q T):SC G prog 7 [.agg (prV a p.all).toArray,pA pt.p,.int .i64 fu] H (λv S=>
 (∃e:Nat,kP p q=.error e∧(e=20∨e=9)∧v=.tuple #[Oo,G.err e]∧S=H)∨
 (∃ins:List Ins,kP p q=.ok ins∧((fu.toNat<(jg p q ins).2.steps∧v=.tuple #[Oo,G.err 21]∧S=H)∨((jg p q ins).2.steps≤fu.toNat∧∃B:SV,v=.tuple #[Wy B (jg p q ins).2,.nilIface]∧S=Row B ll (jg p q ins).1::H)))):=by
 refine sWk func7 ?_;refine gk (k:=bxx (k:=λb3=>?_));refine alc (k:=λb6=>?_);refine go ?_;refine c2_ rfl (QG (a:=a) (pt:=pt) hk) ?_;rintro _ _ (⟨e,J,he,rfl,rfl⟩|⟨ins,m,X,U,u,bs,F,r,M,K,rfl,rfl⟩)
 ·refine e_ mv (e_ exr (e_ exr (e_ asn (e_ asn (on_ (qn_ (ws_ (ws_ (wr_ (e_ mv ?_))))))))));refine e_ (eg rfl) ?_;refine gk (k:=ift (k:=ws_ (wr_ (e_ (bld []) (gR ?_)))));exact⟨_,hsb,.inl ⟨e,J,he,rfl,rfl⟩⟩
 haveI:=K;obtain⟨⟨tb,c⟩,s⟩:=QQ (x:=⟨X,p.all,U,pt,u,bs⟩) hk r rfl M;obtain⟨A,h⟩:=ex (jg p q ins);refine e_ mv (e_ exr (e_ exr (e_ asn (e_ asn (on_ (qn_ (ws_ (ws_ (wr_ (e_ mv ?_))))))))));refine e_ (dL rfl) ?_;refine gk (k:=fM (k:=go ?_));refine eu (dH.nilRow (e:=ll) dH.refl) ?_;refine e_ (bld []) (alc (k:=λR=>?_));refine gk (k:=e8 (MS×Nat×(List Hit)×SV×Int×Int×Int) (λy=>BA (dM p q ins) y.2.1 y.1∧lT (dM p q ins) (fa p q) y.1∧A=(y.2.2.1++(nJ (dM p q ins) y.2.1 y.1).1,(nJ (dM p q ins) y.2.1 y.1).2)∧((y.2.2.1.length:Nat):Int)≤y.1.pl+1) (λy=>[]) [(2,_),(6,_),(8,_),(10,_)] (λy=>[Ma m (⟨X,p.all,U,pt,u,bs⟩,y.1),Row y.2.2.2.1 ll y.2.2.1,Vr R [y.2.2.2.1.val,.int .i64 y.2.2.2.2.1,.int .i64 y.2.2.2.2.2.1,.int .i64 y.2.2.2.2.2.2]]) _ (λy=>y.2.1) ((mn (fa p q),(dM p q ins).ids.length+1, [],SV.nil,0,0,0)) (h0:=?_) (k:=?_))
 ·try dsimp only
  exact⟨BA.start s.lo,s,h,by show(0:Int)≤ -1+1;decide⟩
 rintro⟨d,f,out,B,k1,k2,k3⟩ ⟨w,i,b,hol⟩
 try dsimp only[Yd,Ye]at*
 obtain⟨V,rfl⟩:∃g,f=g+1:=⟨f-1,by have:=w.one;omega⟩;obtain⟨j,hsm⟩:=CN c.dr c.few i;have hhi:=i.hi;obtain⟨h6,h7⟩:=tT c j;refine go ?_;refine c1_ rfl (RQ Z hC c i) ?_;rintro _ _ ⟨(⟨Y,l,rfl⟩|⟨l,rfl⟩),rfl⟩
 ·rw[DQ l]at b;have E:=(Hx c.dr c.few V _ j).2;have L:(fh (dM p q ins) d).2.steps≤A.2.steps:=by rw[b];exact E
  have t:=w.next c.dr c.few i l;have hpl:=(rJ c.dr c.few ((dM p q ins).ids.length+1) d i).2.2.2 (by intro h9;rw[show(qZ (dM p q ins) ((dM p q ins).ids.length+1) d).1=(fh (dM p q ins) d).1 from rfl,l]at h9;cases h9);have hpl2:d.pl<(fh (dM p q ins) d).2.pl:=hpl.1;refine gk (k:=alc (k:=λN=>?_));refine go ?_;refine d1_ rfl (C3 c j) (e_ mv (e_ exr (e_ exr (e_ exr (e_ fla (sto (k:=e_ fla (sto (k:=e_ fla (sto (k:=on_ (qn_ (ws_ ?_)))))))))))));refine ws_ (wr_ (e_ fla (e_ ldv (e_ mv ?_))));refine e_ (nw rfl rfl) ?_;refine gW (λh1=>?_) λh1=>?_
  ·have n:fu.toNat<A.2.steps:=by have h9:=h1;omega
   rw[h]at n;refine go ?_;refine wD [2] (λk H=>(k=1→dQ H 0 [G.err 21])) (af_ 0 (q:=ea λH hH=>bld []) (k:=?_));refine go ?_;refine aS 2 rfl (ej rfl rfl rfl) ?_;rintro _ _ ⟨rfl,rfl⟩;refine gk (k:=aZ (gR ?_));exact⟨_,hsb,.inr ⟨ins,r,.inl ⟨n,rfl,rfl⟩⟩⟩
  have z:(fh (dM p q ins) d).2.steps≤fu.toNat:=ao;refine gk (k:=fM (k:=go ?_));refine gk (k:=fS ll (k:=λs51=>?_));refine app (k:=λC=>?_);refine go ?_;refine lN (((fh (dM p q ins) d).2,V,out++ [Y],C,(((fh (dM p q ins) d).2.steps:Nat):Int),((rF (fh (dM p q ins) d).2:Nat):Int),(((fh (dM p q ins) d).2.visits:Nat):Int))) ?_
  try dsimp only
  exact⟨t,j,by rw[b,Yf];all_goals rfl,by rw[Ya];show((out.length+1:Nat):Int)≤_;omega⟩
 rw[DR l]at b;have L:(fh (dM p q ins) d).2.steps≤A.2.steps:=by rw[b];exact Xl _
 refine gk (k:=alc (k:=λN=>?_));refine go ?_;refine d1_ rfl (C3 c j) (e_ mv (e_ exr (e_ exr (e_ exr (e_ fla (sto (k:=e_ fla (sto (k:=e_ fla (sto (k:=on_ (qn_ (ws_ ?_)))))))))))));refine ws_ (wr_ (e_ fla (e_ ldv (e_ mv ?_))));refine e_ (nw rfl rfl) ?_;refine gW (λh2=>?_) λh2=>?_
 ·have n:fu.toNat<A.2.steps:=by have h9:=h2;omega
  rw[h]at n;refine go ?_;refine wD [2] (λk H=>(k=1→dQ H 0 [G.err 21])) (af_ 0 (q:=ea λH hH=>bld []) (k:=?_));refine go ?_;refine aS 2 rfl (ej rfl rfl rfl) ?_;rintro _ _ ⟨rfl,rfl⟩;refine gk (k:=aZ (gR ?_));exact⟨_,hsb,.inr ⟨ins,r,.inl ⟨n,rfl,rfl⟩⟩⟩
 have z:(fh (dM p q ins) d).2.steps≤fu.toNat:=aw;refine gk (k:=ift (k:=go ?_));refine gR ?_;refine⟨_,?_,.inr ⟨ins,r,.inr ⟨?_,B,?_,rfl⟩⟩⟩
 ·rw[←h,b,Ym];exact hsb
 ·rw[←h,b];exact z
 ·rw[←h,b];all_goals rfl
abbrev fxF:List FV:= [⟨⟨#[116]⟩,1,false,false,false⟩]
abbrev fxD:List Doc:= [(0, [(⟨#[116]⟩,⟨#[97,32,97,32,98]⟩)]),(1, [(⟨#[116]⟩,⟨#[98]⟩)]),(2, [(⟨#[116]⟩,⟨#[97]⟩)])]
abbrev fxP:PrG:=⟨[1], [(0,⟨#[97]⟩)], [],false, [0], [4,0,1,0]⟩
abbrev fxQ:PtD:=⟨fxF,fxD, [0]⟩
abbrev fxI:List Ins:= [(4,0,1),(0,0,0)]
theorem Fi:sg fxF fxD=0:=ax
theorem B5:kP fxP fxQ=.ok fxI:=by
 have h1:(gA fxP).isSome=true:=ax;have h2:lu fxP=some fxI:=ax;obtain⟨tb,h3⟩:=Option.isSome_iff_exists.1 h1;rw[kP,h3,h2];all_goals rfl
def fxR:List Hit×MS:=Kl (dM fxP fxQ fxI) (mn (fa fxP fxQ))
theorem TV:fxR.1= [(0,409),(2,465)]∧fxR.2.steps=4∧rF fxR.2=3∧fxR.2.visits=2:=ax
theorem JX {G:dJ}{H:dD}{i:Int}{s:ByteArray}:SC G prog 43 [.int .i64 i,.string s] H (λv c=>∃a:SV,v=.agg #[.int .i64 i,a.val]∧c=Row a eVl [(⟨#[116]⟩,s)]::H):=by
 refine sWk func43 ?_;refine gk (k:=alc (k:=λb4=>?_));refine on_ (qn_ (ws_ (wr_ (e_ mv (e_ mv (e_ (bld [(0,_),(1,_)]) (fS eVl (k:=λb=>?_))))))));refine e_ (bld [(0,_),(1,_)]) (gR ?_);exact⟨_,hsb,b,rfl,rfl⟩
section
variable {G:dJ}{P:Program}{t:Tm}{H:dD}{dst:Option Tmp}{ty:TypeId}{pos:String}{after:Array Edge}{g:Option (Nat×Bool)}
theorem HX {T E:TypeId}{v w:Nat}{z:Value}{r q p:Value}{n x2 m:Operand}{α:Type}(e:Enc α) {c b a:α} [hT:Und P T (.slice E)] [hE:Inf P E v w z] (h:evo t n=some r) (f:evo t x2=some q) (d:evo t m=some p) [k:gP e r c] [j:gP e q b] [i:gP e p a] (l:v=e.sz):
 St G P ⟨dst,.buildSlice T 3 #[(0,n),(1,x2),(2,m)],ty,pos,after,g⟩ t H (λu x=>∃s:SV,u=s.val∧x=Row s e [c,b,a]::H):=by
 subst l;exact ek e [c,b,a] (by simp only[wc,Enc.parts,h,f,d,k.out,j.out,i.out]) rfl cX
end
theorem YG {H:dD}{i j k:Int}{a b c:SV}{x y z:List Val}(h1:Sl H a eVl x) (h2:Sl H b eVl y) (h3:Sl H c eVl z):gK H [(i,a),(j,b),(k,c)] [(i,x),(j,y),(k,z)]:=
 ⟨rfl,λn p q hp d=>by
   match n,hp,d with
   | 0,hp,d=>cases hp;cases d;exact⟨rfl,h1⟩
   | 1,hp,d=>cases hp;cases d;exact⟨rfl,h2⟩
   | 2,hp,d=>cases hp;cases d;exact⟨rfl,h3⟩
   |n+3,hp,_=>cases hp⟩
theorem oQ:dsz fxD≤30000000∧(fU fxF fxD).length≤2000000:=ax
theorem Sc {G:dJ}{H:dD} [hg:Glb G H] [Tab H 27 oc] [Tab H 25 mA] [Spc H] (hT:kh G) (m:ot):SC G prog 17 [] H (λv p=>∃(b:PtA) (F:dD),eN F b fxQ∧v=pA b.p∧p=eU F::H):=by
 have f:=qg Fi oQ.1 oQ.2;haveI hnil:∀i,Sl i SV.nil eI []:=λi=>⟨λL hL=>⟨rfl,Xl _,.inl ⟨rfl,rfl⟩⟩⟩;refine sWk func17 ?_;refine ws_ (wr_ (e_ asn (on_ (qn_ (ws_ (wr_ (e_ (bld [(0,_),(1,_)]) (fS eF (k:=λh=>?_)))))))));refine e_ (bld [(0,_)]) (alc (k:=λn=>?_));refine go ?_;refine wD [1,2,3,4,6] (λk H=>(k=0→dQ H n [h.val])) ?_;refine go ?_;refine aS 1 rfl (v2_ JX) ?_;rintro _ _ ⟨e,rfl,rfl⟩;refine aS 2 rfl (v2_ JX) ?_;rintro _ _ ⟨d,rfl,rfl⟩;refine aS 3 rfl (v2_ JX) ?_;rintro _ _ ⟨c,rfl,rfl⟩;refine aS 4 rfl (HX eD rfl rfl rfl rfl) ?_;rintro _ _ ⟨j,rfl,rfl⟩;refine af_ 5 (q:=ea λH hH=>bld [(0,_)]) (k:=?_);refine aS 6 rfl (v2_ (QE (fv:=h) (dv:=j) (xv:=SV.nil) (fs:=fxF) (ds:=fxD) (dead:= []) (l:= [(0,e),(1,d),(2,c)]) hT m (YG inferInstance inferInstance inferInstance) Fi oQ.1 oQ.2 (Cj f) ae)) ?_;rintro _ _ ⟨b,ws,F,g,a,rfl,rfl⟩;refine gk (k:=aZ (gR ?_));exact⟨_,hsb,b,F,by have h9:=g.2.2.1 rfl;rw[h9]at a;exact a,rfl,rfl⟩
theorem Rm:sj fxP fxQ 100:=by
 have h1:∀ps∈fa fxP fxQ,ec ps≤100:=ax;refine⟨⟨ae,ae,ae,ae,ae,aq,ae,ae⟩,qg Fi oQ.1 oQ.2,⟨ae,ae,ae,λx hx=>by simp at hx;omega⟩,h1,aq,ae,aq⟩
theorem RS {G:dJ}{H:dD} [hg:Glb G H] [hia:Isa H] [Tab H 27 oc] [Tab H 25 mA] [Spc H] (hT:kh G) (E:ot) (s:ph) (t:jf):SC G prog 5 [] H (λv R=>v=.bool true∧R=H):=by
 obtain⟨x,w,B,A⟩:=TV;refine sWk func5 ?_;refine go ?_;refine c0_ rfl (Sc hT E) ?_;rintro _ _ ⟨pt,F,r,rfl,rfl⟩;haveI hpt':∀h,eN (eU F::h) pt fxQ:=λh=>r.less n4;refine e_ asn (on_ (qn_ (ws_ (ws_ (wr_ (e_ mv ?_))))));refine e_ (gu rfl) ?_;refine gW (λh1=>?_) λh1=>?_
 ·exact absurd h1 aq
 refine gk (k:=fS eI (k:=λj=>?_));refine e_ (bld [(0,_),(1,_)]) (fS eLf (k:=λf=>?_));refine fS eI (k:=λd=>?_);refine s_ (zb eB rfl rfl rfl rfl rfl) ?_;rintro _ _ ⟨c,rfl,rfl⟩;refine e_ (bld [(0,_),(1,_),(4,_),(5,_)]) (alc (k:=λb2=>?_));refine sto (k:=on_ (qn_ (ws_ (wr_ ?_))));haveI hn1:∀h,Sl h SV.nil eNr []:=λh=>⟨λL hL=>⟨rfl,Xl _,.inl ⟨rfl,rfl⟩⟩⟩;haveI hn2:∀h,il (Row c eB [4,0,1,0]::Row d eI [0]::Row f eLf [(0,⟨#[97]⟩)]::Row j eI [1]::h) ⟨j,f,SV.nil,d,c, []⟩ fxP:=λh=>⟨inferInstance,inferInstance,inferInstance,⟨rfl,λi z n C=>by cases C⟩,inferInstance⟩;haveI hn3:∀h,pk (Row c eB [4,0,1,0]::h) ⟨j,f,SV.nil,d,c, []⟩ fxP:=λh=>⟨inferInstance⟩;refine go ?_;refine c2_ rfl (QG (a:=⟨j,f,SV.nil,d,c, []⟩) (p:=fxP) (pt:=pt) (q:=fxQ) Rm) ?_;rintro _ _ (⟨e,g,he,rfl,rfl⟩|⟨ins,m,a',sc,u,bs,F2,hnw,hbl,hmf,rfl,rfl⟩)
 ·rw[B5]at g;cases g
 refine e_ mv (e_ exr (e_ exr (e_ asn (e_ asn (on_ (qn_ (ws_ (ws_ (wr_ (e_ mv ?_))))))))));refine e_ (dL rfl) (go ?_);refine eg_ (gu rfl) ?_;refine gW (λh2=>?_) λh2=>?_
 ·exact absurd h2 aq
 refine go ?_;refine c3_ rfl (W3 (a:=⟨j,f,SV.nil,d,c, []⟩) (p:=fxP) (pt:=pt) (q:=fxQ) (fu:=4) s t Rm) ?_;rintro _ _ (⟨e,g,he,rfl,rfl⟩|⟨ins2,b,(⟨l,rfl,rfl⟩|⟨hge,sh,rfl,rfl⟩)⟩)
 ·rw[B5]at g;cases g
 ·rw[B5]at b;cases b;have y:(jg fxP fxQ fxI).2.steps=4:=w;rw[y]at l;exact absurd l ae
 rw[B5]at b;cases b;refine gk (k:=alc (k:=λb5=>?_));refine sto (k:=e_ asn (on_ (qn_ (ws_ (wr_ (e_ mv ?_))))));refine e_ (iB rfl) ?_;refine gk (k:=eg_ (bld [(0,_),(1,_)]) (eg_ (bld [(0,_),(1,_)]) ?_));refine sg_ (ek ll [(0,409),(2,465)] bH rfl ax) (k:=?_);rintro _ _ ⟨s39,rfl,rfl⟩;refine eg_ (bld [(0,_),(1,_),(2,_),(3,_)]) ?_;refine sg_ (v2_ (QD (xs:=(jg fxP fxQ fxI).1) (ys:= [(0,409),(2,465)]) (by rw[show(jg fxP fxQ fxI).1=_ from x];decide))) (k:=?_);rintro _ _ ⟨rfl,rfl⟩;refine gR ?_;refine⟨_,hsb,?_,rfl⟩;have N:(jg fxP fxQ fxI).1= [(0,409),(2,465)]:=x;have M:(jg fxP fxQ fxI).2.steps=4:=w;have K:rF (jg fxP fxQ fxI).2=3:=B;have J:(jg fxP fxQ fxI).2.visits=2:=A;rw[N,M,K,J];all_goals rfl
section
variable {G:dJ}{H:dD}{a:PrA}{p:PrG}{pt:PtA}{q:PtD}{T:Nat}{fu:Int}{ins:List Ins}
end
section
variable {G:dJ}{H R:dD}{m T:Nat}{x:MX}{s:MS}{p:PrG}{q:PtD}{ins:List Ins}{pss:List (List Po)}{tb:Hs}{z:Hit}
end
structure Ni (p:PrG) (fs:List FV) (ps:List km):Prop where
 pl:ps.length≤1000000000
 sm:∀d∈ps,SmP fs d
 fl:fs.length≤1000000
 fn:∀f∈fs,f.name.size≤1000000000
 pq:∀d∈ps,∀ws,vn fs ps=true→yu d.1.length d.2 ws→∃T,sj p ⟨fs,d.1,ws⟩ T
end Go.Sx
